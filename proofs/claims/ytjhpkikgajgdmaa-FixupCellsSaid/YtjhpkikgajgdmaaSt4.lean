/- Layer 3: the reference's Valid. -/
import Derived.Test.YtjhpkikgajgdmaaProg
import Derived.Test.YtjhpkikgajgdmaaDefs
import Derived.Test.YtjhpkikgajgdmaaRange
import Derived.Test.YtjhpkikgajgdmaaSt1
import Derived.ScopeJumps
import Derived.WalkMore
import Derived.WalkKit
import Derived.LoopTactic
import Derived.Outline
import Derived.Lib.Hide
import Derived.Handy
import Derived.Deep.DeepCutAuto
namespace Go.Proofs.Ytjhpkikgajgdmaa
open Go.RowKit
set_option linter.unusedVariables false
set_option linter.unusedSimpArgs false

theorem no_line {p : Int} {b : Ln} (h : ¬ (lenB p = true ∧ lenB b.w = true ∧ 0 ≤ b.s ∧ b.s ≤ 9)) : lineB p b = false := by
  rw [Bool.eq_false_iff]
  intro hh
  simp only [lineB, Bool.and_eq_true, decide_eq_true_eq] at hh
  obtain ⟨⟨⟨q1, q2⟩, q3⟩, q4⟩ := hh
  exact h ⟨q1, q2, q3, q4⟩

set_option maxRecDepth 100000 in
set_option maxHeartbeats 4000000 in
theorem rvalid_any (s : Sty) (w : World) :
    Calls Try.prog 44 #[.agg s.cells] w fun e w' => e = .returned (.bool (validB s)) ∧ Below w.heap.size w w' := by
  go_enter Try.func44, Try.ntmps44
  go_upto_region 1 with (fail)
  have hA := styAt_new s w 40
  obtain ⟨W0, hW0⟩ : ∃ W0, w.alloc (.cells s.cells 40) = W0 := ⟨_, rfl⟩
  rw [hW0] at hA ⊢
  have hB0 : Below w.heap.size w W0 := by rw [← hW0]; go_grown
  have hl : w.heap.size < W0.heap.size := by rw [← hW0]; simp
  clear hW0
  obtain ⟨V0, hV0⟩ : ∃ V0, Value.agg s.cells = V0 := ⟨_, rfl⟩
  rw [hV0]
  clear hV0
  have c0 : W0.cell? ⟨w.heap.size, 0, none⟩ = some (.int .i64 s.wd.k) := by simpa using hA 0 _ rfl
  have c1 : W0.cell? ⟨w.heap.size, 1, none⟩ = some (.int .i64 s.wd.n) := by simpa using hA 1 _ rfl
  have c2 : W0.cell? ⟨w.heap.size, 2, none⟩ = some (.int .i64 s.ht.k) := by simpa using hA 2 _ rfl
  have c3 : W0.cell? ⟨w.heap.size, 3, none⟩ = some (.int .i64 s.ht.n) := by simpa using hA 3 _ rfl
  have c4 : W0.cell? ⟨w.heap.size, 22, none⟩ = some (.int .i64 s.al) := by simpa using hA 22 _ rfl
  have HA := Lib.hid hA
  clear hA
  go_wp2_with (go_at_call 54; refine (rsize_any _ _).mono ?_; rintro e w' ⟨rfl, hb⟩; have hc := (bcell hb).1; have hf := (bcell hb).2; have hz := hb.size; (try simp only [World.size_alloc, World.size_setCell, World.size_drew] at hz); (try simp only [World.size_drew, World.cell?_drew, World.frozen?_drew] at hc hf); have hl : w.heap.size < w'.heap.size := (by omega); have HA := Lib.hid (HA.out.below hb (by omega)); have hB0 := hB0.trans (hb.mono (by omega)))
  · go_returns
    have h1 : s.al < 0 ∨ 3 < s.al := by assumption
    refine ⟨?_, hB0⟩
    have e : validB s = false := by simp [validB]; omega
    rw [e]; rfl
  · have h1 : 0 ≤ s.al ∧ s.al ≤ 3 := by assumption
    have h2 : sizeB s.wd = true := by assumption
    have h3 : sizeB s.ht = true := by assumption
    have HAL := Lib.hid h1
    have HWD := Lib.hid h2
    have HHT := Lib.hid h3
    clear hc hf hz hb h1 h2 h3 c0 c1 c2 c3 c4
    go_loopw [3] (fun i wr => ∃ k : Nat, k ≤ 4 ∧ i = .int .i64 k ∧ (s.sides.take k).all (fun x => lineB x.1 x.2) = true ∧ StyAt w.heap.size 0 s wr ∧ Below w.heap.size w wr) (fun i _ => 4 - (intOf i).toNat)
    case atStart => exact ⟨0, by omega, rfl, rfl, HA.out, hB0⟩
    case round =>
      obtain ⟨k, hk, rfl, hall, hA, hB⟩ := hrel
      have hl : w.heap.size < wr.heap.size := block_lt_of_cell (hA 0 _ rfl)
      match k, hk with
      | 0, _ =>
        have d0 : wr.cell? ⟨w.heap.size, 8, none⟩ = some (.int .i64 s.b0.s) := by simpa using hA 8 _ rfl
        have d1 : wr.cell? ⟨w.heap.size, 9, none⟩ = some (.int .i64 s.b0.w) := by simpa using hA 9 _ rfl
        have d2 : wr.cell? ⟨w.heap.size, 10, none⟩ = some (.int .u32 s.b0.c) := by simpa using hA 10 _ rfl
        have d3 : wr.cell? ⟨w.heap.size, 4, none⟩ = some (.int .i64 s.p0) := by simpa using hA 4 _ rfl
        have HA := Lib.hid hA
        have HP := Lib.hid hall
        clear hA hall
        have no : lineB s.p0 s.b0 = false → validB s = false := fun h => by simp [validB, h]
        have NO := Lib.hid no
        clear no
        go_wp2_with (go_at_call 55; refine (rlength_any _ _).mono ?_; rintro e w' ⟨rfl, rfl⟩)
        · have q : s.b0.s < 0 ∨ 9 < s.b0.s := by assumption
          go_returns
          exact ⟨by rw [NO.out (no_line fun hh => by omega)]; rfl, by go_grown⟩
        · have q1 : lenB s.p0 = true := by assumption
          have q2 : lenB s.b0.w = true := by assumption
          have q3 : 0 ≤ s.b0.s ∧ s.b0.s ≤ 9 := by assumption
          go_roundw
          case rel =>
            refine ⟨1, by omega, by go_num, ?_, HA.out.alloc _, by go_grown⟩
            have := HP.out
            simp [Sty.sides] at this ⊢
            simp [lineB, q1, q2, q3]
            (try (simp [lineB] at this; simp_all))
          case measure => simp [intOf]
        · have q : s.b0.s < 0 := by assumption
          go_returns
          exact ⟨by rw [NO.out (no_line fun hh => by omega)]; rfl, by go_grown⟩
        · have q : ¬ lenB s.b0.w = true := by assumption
          go_returns
          exact ⟨by rw [NO.out (no_line fun hh => q hh.2.1)]; rfl, by go_grown⟩
        · have q : ¬ lenB s.p0 = true := by assumption
          go_returns
          exact ⟨by rw [NO.out (no_line fun hh => q hh.1)]; rfl, by go_grown⟩
      | 1, _ =>
        have d0 : wr.cell? ⟨w.heap.size, 11, none⟩ = some (.int .i64 s.b1.s) := by simpa using hA 11 _ rfl
        have d1 : wr.cell? ⟨w.heap.size, 12, none⟩ = some (.int .i64 s.b1.w) := by simpa using hA 12 _ rfl
        have d2 : wr.cell? ⟨w.heap.size, 13, none⟩ = some (.int .u32 s.b1.c) := by simpa using hA 13 _ rfl
        have d3 : wr.cell? ⟨w.heap.size, 5, none⟩ = some (.int .i64 s.p1) := by simpa using hA 5 _ rfl
        have HA := Lib.hid hA
        have HP := Lib.hid hall
        clear hA hall
        have no : lineB s.p1 s.b1 = false → validB s = false := fun h => by simp [validB, h]
        have NO := Lib.hid no
        clear no
        go_wp2_with (go_at_call 55; refine (rlength_any _ _).mono ?_; rintro e w' ⟨rfl, rfl⟩)
        · have q : s.b1.s < 0 ∨ 9 < s.b1.s := by assumption
          go_returns
          exact ⟨by rw [NO.out (no_line fun hh => by omega)]; rfl, by go_grown⟩
        · have q1 : lenB s.p1 = true := by assumption
          have q2 : lenB s.b1.w = true := by assumption
          have q3 : 0 ≤ s.b1.s ∧ s.b1.s ≤ 9 := by assumption
          go_roundw
          case rel =>
            refine ⟨2, by omega, by go_num, ?_, HA.out.alloc _, by go_grown⟩
            have := HP.out
            simp [Sty.sides] at this ⊢
            simp [lineB, q1, q2, q3]
            (try (simp [lineB] at this; simp_all))
          case measure => simp [intOf]
        · have q : s.b1.s < 0 := by assumption
          go_returns
          exact ⟨by rw [NO.out (no_line fun hh => by omega)]; rfl, by go_grown⟩
        · have q : ¬ lenB s.b1.w = true := by assumption
          go_returns
          exact ⟨by rw [NO.out (no_line fun hh => q hh.2.1)]; rfl, by go_grown⟩
        · have q : ¬ lenB s.p1 = true := by assumption
          go_returns
          exact ⟨by rw [NO.out (no_line fun hh => q hh.1)]; rfl, by go_grown⟩
      | 2, _ =>
        have d0 : wr.cell? ⟨w.heap.size, 14, none⟩ = some (.int .i64 s.b2.s) := by simpa using hA 14 _ rfl
        have d1 : wr.cell? ⟨w.heap.size, 15, none⟩ = some (.int .i64 s.b2.w) := by simpa using hA 15 _ rfl
        have d2 : wr.cell? ⟨w.heap.size, 16, none⟩ = some (.int .u32 s.b2.c) := by simpa using hA 16 _ rfl
        have d3 : wr.cell? ⟨w.heap.size, 6, none⟩ = some (.int .i64 s.p2) := by simpa using hA 6 _ rfl
        have HA := Lib.hid hA
        have HP := Lib.hid hall
        clear hA hall
        have no : lineB s.p2 s.b2 = false → validB s = false := fun h => by simp [validB, h]
        have NO := Lib.hid no
        clear no
        go_wp2_with (go_at_call 55; refine (rlength_any _ _).mono ?_; rintro e w' ⟨rfl, rfl⟩)
        · have q : s.b2.s < 0 ∨ 9 < s.b2.s := by assumption
          go_returns
          exact ⟨by rw [NO.out (no_line fun hh => by omega)]; rfl, by go_grown⟩
        · have q1 : lenB s.p2 = true := by assumption
          have q2 : lenB s.b2.w = true := by assumption
          have q3 : 0 ≤ s.b2.s ∧ s.b2.s ≤ 9 := by assumption
          go_roundw
          case rel =>
            refine ⟨3, by omega, by go_num, ?_, HA.out.alloc _, by go_grown⟩
            have := HP.out
            simp [Sty.sides] at this ⊢
            simp [lineB, q1, q2, q3]
            (try (simp [lineB] at this; simp_all))
          case measure => simp [intOf]
        · have q : s.b2.s < 0 := by assumption
          go_returns
          exact ⟨by rw [NO.out (no_line fun hh => by omega)]; rfl, by go_grown⟩
        · have q : ¬ lenB s.b2.w = true := by assumption
          go_returns
          exact ⟨by rw [NO.out (no_line fun hh => q hh.2.1)]; rfl, by go_grown⟩
        · have q : ¬ lenB s.p2 = true := by assumption
          go_returns
          exact ⟨by rw [NO.out (no_line fun hh => q hh.1)]; rfl, by go_grown⟩
      | 3, _ =>
        have d0 : wr.cell? ⟨w.heap.size, 17, none⟩ = some (.int .i64 s.b3.s) := by simpa using hA 17 _ rfl
        have d1 : wr.cell? ⟨w.heap.size, 18, none⟩ = some (.int .i64 s.b3.w) := by simpa using hA 18 _ rfl
        have d2 : wr.cell? ⟨w.heap.size, 19, none⟩ = some (.int .u32 s.b3.c) := by simpa using hA 19 _ rfl
        have d3 : wr.cell? ⟨w.heap.size, 7, none⟩ = some (.int .i64 s.p3) := by simpa using hA 7 _ rfl
        have HA := Lib.hid hA
        have HP := Lib.hid hall
        clear hA hall
        have no : lineB s.p3 s.b3 = false → validB s = false := fun h => by simp [validB, h]
        have NO := Lib.hid no
        clear no
        go_wp2_with (go_at_call 55; refine (rlength_any _ _).mono ?_; rintro e w' ⟨rfl, rfl⟩)
        · have q : s.b3.s < 0 ∨ 9 < s.b3.s := by assumption
          go_returns
          exact ⟨by rw [NO.out (no_line fun hh => by omega)]; rfl, by go_grown⟩
        · have q1 : lenB s.p3 = true := by assumption
          have q2 : lenB s.b3.w = true := by assumption
          have q3 : 0 ≤ s.b3.s ∧ s.b3.s ≤ 9 := by assumption
          go_roundw
          case rel =>
            refine ⟨4, by omega, by go_num, ?_, HA.out.alloc _, by go_grown⟩
            have := HP.out
            simp [Sty.sides] at this ⊢
            simp [lineB, q1, q2, q3]
            (try (simp [lineB] at this; simp_all))
          case measure => simp [intOf]
        · have q : s.b3.s < 0 := by assumption
          go_returns
          exact ⟨by rw [NO.out (no_line fun hh => by omega)]; rfl, by go_grown⟩
        · have q : ¬ lenB s.b3.w = true := by assumption
          go_returns
          exact ⟨by rw [NO.out (no_line fun hh => q hh.2.1)]; rfl, by go_grown⟩
        · have q : ¬ lenB s.p3 = true := by assumption
          go_returns
          exact ⟨by rw [NO.out (no_line fun hh => q hh.1)]; rfl, by go_grown⟩
      | 4, _ =>
        have d0 : wr.cell? ⟨w.heap.size, 20, none⟩ = some (.int .i64 s.cs) := by simpa using hA 20 _ rfl
        have d1 : wr.cell? ⟨w.heap.size, 21, none⟩ = some (.int .i64 s.rs) := by simpa using hA 21 _ rfl
        have d2 : wr.cell? ⟨w.heap.size, 25, none⟩ = some (.int .i64 s.g0) := by simpa using hA 25 _ rfl
        have d3 : wr.cell? ⟨w.heap.size, 26, none⟩ = some (.int .i64 s.g1) := by simpa using hA 26 _ rfl
        clear hA
        have HP := Lib.hid hall
        clear hall
        go_wp2_with (go_at_call 55; refine (rlength_any _ _).mono ?_; rintro e w' ⟨rfl, rfl⟩)
        all_goals go_returns
        all_goals refine ⟨?_, hB⟩
        all_goals have hp := HP.out
        all_goals have hal := HAL.out
        all_goals have hwd := HWD.out
        all_goals have hht := HHT.out
        all_goals (simp [Sty.sides] at hp; clear HP HAL HWD HHT HA; simp_all [validB])
        all_goals omega
      | n + 5, h => omega
  · go_returns
    have h1 : s.al < 0 := by assumption
    refine ⟨?_, hB0⟩
    have e : validB s = false := by simp [validB]; omega
    rw [e]; rfl
  · go_returns
    have h1 : ¬ sizeB s.ht = true := by assumption
    refine ⟨?_, hB0⟩
    have e : validB s = false := by simp [validB, h1]
    rw [e]; rfl
  · go_returns
    have h1 : ¬ sizeB s.wd = true := by assumption
    refine ⟨?_, hB0⟩
    have e : validB s = false := by simp [validB, h1]
    rw [e]; rfl

end Go.Proofs.Ytjhpkikgajgdmaa
