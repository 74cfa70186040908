/- Layer 3: which styles are valid. -/
import Derived.Test.YtjhpkikgajgdmaaProg
import Derived.Test.YtjhpkikgajgdmaaDefs
import Derived.Test.YtjhpkikgajgdmaaRange
import Derived.Test.YtjhpkikgajgdmaaSt1
import Derived.Test.YtjhpkikgajgdmaaSt2
import Derived.WalkKit
import Derived.LoopTactic
import Derived.Outline
import Derived.Lib.Hide
import Derived.Handy
import Derived.Deep.DeepCutAuto
import Derived.Deep.CutBlock
namespace Go.Proofs.Ytjhpkikgajgdmaa
open Go.RowKit
set_option linter.unusedVariables false
set_option linter.unusedSimpArgs false
attribute [local go_sem] Oper.semAt_some

set_option maxRecDepth 100000 in
set_option maxHeartbeats 1000000 in
theorem valid_any (s : Sty) (w : World) :
    Calls Try.prog 47 #[.agg s.cells] w fun e w' => e = .returned (.bool (validB s)) ∧ Below w.heap.size w w' := by
  refine calls_of_wp_marks Try.func47 rfl ?_; simp only [Try.ntmps47, List.size_toArray, List.length_cons, List.length_nil, Nat.reduceAdd, Nat.reduceSub, Array.replicate_succ, Array.replicate_zero, List.push_toArray, List.append_toArray, List.nil_append, List.cons_append]
  go_upto_region 1 with (fail)
  have hA := styAt_new s w 40
  obtain ⟨W0, hW0⟩ : ∃ W0, w.alloc (.cells s.cells 40) = W0 := ⟨_, rfl⟩
  rw [hW0] at hA ⊢
  have hB0 : Below w.heap.size w W0 := by rw [← hW0]; go_grown
  have hl : w.heap.size < W0.heap.size := by rw [← hW0]; simp
  clear hW0
  obtain ⟨V0, hV0⟩ : ∃ V0, Value.agg s.cells = V0 := ⟨_, rfl⟩
  rw [hV0]
  clear hV0
  refine wp_scope_straight ?_
  go_upto_region 1 with (fail)
  go_cut [3] from 6 to 18 (fun g w1 => ∃ B : Nat, g = .pointer (some ⟨B, 0, none⟩) ∧ w.heap.size < B ∧ Boxed w1 B 4 (.bool (sizeB s.wd && sizeB s.ht && withinB (-1073741824) 1073741824 [s.g0, s.g1])) ∧ StyAt w.heap.size 0 s w1 ∧ Below w.heap.size w w1)
  case first =>
    have c0 : W0.cell? ⟨w.heap.size, 0, none⟩ = some (.int .i64 s.wd.k) := by simpa using hA 0 _ rfl
    have c1 : W0.cell? ⟨w.heap.size, 1, none⟩ = some (.int .i64 s.wd.n) := by simpa using hA 1 _ rfl
    have c2 : W0.cell? ⟨w.heap.size, 2, none⟩ = some (.int .i64 s.ht.k) := by simpa using hA 2 _ rfl
    have c3 : W0.cell? ⟨w.heap.size, 3, none⟩ = some (.int .i64 s.ht.n) := by simpa using hA 3 _ rfl
    have HA := Lib.hid hA
    clear hA
    go_wp2_with (first | (go_at_call 57; refine (isSize_any _ _).mono ?_; rintro e w' ⟨rfl, hb⟩; have hc := (bcell hb).1; have hf := (bcell hb).2; have hz := hb.size; (try simp only [World.size_alloc, World.size_setCell, World.size_drew] at hz); (try simp only [World.size_drew, World.cell?_drew, World.frozen?_drew] at hc hf); have hl : w.heap.size < w'.heap.size := (by omega); have HA := Lib.hid (HA.out.below hb (by omega)); have hB0 := hB0.trans (hb.mono (by omega))) | (go_at_call 58; refine (areLengths_any _ _ _ HA.out.spacing).mono ?_; rintro e w' ⟨rfl, rfl⟩))
    all_goals go_meet
    all_goals refine ⟨_, rfl, by omega, ?_, ?_, by go_grown⟩
    · simp_all [Boxed.new]
    · exact HA.out.alloc _
    · simp_all [Boxed.new]
    · exact HA.out.alloc _
    · simp_all [Boxed.new]
    · exact HA.out.alloc _
  case rest =>
    obtain ⟨B, rfl, hBw, hbx, hA1, hBe⟩ := hcut
    clear hA hB0 hl
    generalize hg1 : (sizeB s.wd && sizeB s.ht && withinB (-1073741824) 1073741824 [s.g0, s.g1]) = g1 at hbx
    have HG1 := Lib.hid hg1
    clear hg1
    go_upto_region 2 with (fail)
    go_cut [3] from 19 to 33 (fun g w1 => g = .pointer (some ⟨B, 0, none⟩) ∧ Boxed w1 B 4 (.bool (g1 && withinB (-1000) 1000 [s.cs, s.rs] && withinB 0 3 [s.al])) ∧ StyAt w.heap.size 0 s w1 ∧ Below w.heap.size w w1)
    case first =>
      have c0 : wc.cell? ⟨w.heap.size, 20, none⟩ = some (.int .i64 s.cs) := by simpa using hA1 20 _ rfl
      have c1 : wc.cell? ⟨w.heap.size, 21, none⟩ = some (.int .i64 s.rs) := by simpa using hA1 21 _ rfl
      have c2 : wc.cell? ⟨w.heap.size, 22, none⟩ = some (.int .i64 s.al) := by simpa using hA1 22 _ rfl
      have cg := hbx.cell
      have fg := hbx.frozen
      have HA := Lib.hid hA1
      clear hA1
      have hlB := hbx.lt
      have hlw : w.heap.size < wc.heap.size := by omega
      go_wp2_with (first | (go_at_call 59; ((with_reducible refine (within_any _ _ (.slice _ 2 2) _ _ (ints_two _ _ _ _ _ (by simp))).mono ?_)); rintro e w' ⟨rfl, rfl⟩) | (go_at_call 59; ((with_reducible refine (within_any _ _ (.slice _ 1 1) _ _ (ints_one _ _ _ _ (by simp))).mono ?_)); rintro e w' ⟨rfl, rfl⟩))
      all_goals go_meet
      all_goals (refine ⟨rfl, ?_, ?_, by go_grown⟩)
      all_goals first
        | (simp only [*, Bool.true_and, Bool.false_and, Bool.and_false]; first | exact ((hbx.set _).alloc _).alloc _ | exact (hbx.set _).alloc _ | exact hbx.set _)
        | (repeat (first | exact HA.out | refine StyAt.alloc ?_ _ | refine StyAt.setCell ?_ (by simp; omega) _))
    case rest =>
      obtain ⟨rfl, hb2, hA2, hB2⟩ := hcut
      clear hbx hA1 hBe
      generalize hg2 : (g1 && withinB (-1000) 1000 [s.cs, s.rs] && withinB 0 3 [s.al]) = g2 at hb2
      have HG := Lib.hid hg2
      clear hg2
      go_wp2_with fail
      go_step3
      go_wp2_with (first | (refine wpList_load_mid rfl 40 _ rfl _ _ rfl _ _ hA2 Try.underlying40 rfl (by kernel_rfl) ?_) | (go_at_call 60; refine (sides_any _ _).mono ?_; rintro e w' ⟨rfl, rfl⟩))
      have hlt := hb2.lt
      refine wp_range_plain (sides1_iter s wc.heap.size) (enters_of Try.func63 (by kernel_rfl) rfl) rfl (fun _ => rfl)
        (fun pre W => Boxed W B 4 (.bool g2) ∧ pre.all (fun x => lineB x.1 x.2) = true ∧ StyAt wc.heap.size 0 s W ∧ Below w.heap.size w W)
        (fun c W => c = .exit 0 ∧ Boxed W B 4 (.bool false) ∧ s.sides.all (fun x => lineB x.1 x.2) = false ∧ Below w.heap.size w W)
        (Stab.and (Stab.boxed _ _ _) (Stab.and (Stab.pure _ _) (Stab.and (Stab.sty _ _ _) (Stab.below (Nat.le_refl _) (by simp; omega)))))
        (Stab.and (Stab.pure _ _) (Stab.and (Stab.boxed _ _ _) (Stab.and (Stab.pure _ _) (Stab.below (Nat.le_refl _) (by simp; omega)))))
        (fun pre A h => h.2.2.1) ⟨hb2.alloc _, rfl, styAt_new s wc _, hB2.alloc (by omega) _⟩ ?round ?done ?stop
      case round =>
        rintro l pre ⟨p, ln⟩ rest W hx hl ⟨hbx, hall, hst, hBW⟩
        dsimp only [sideV]
        clear hA2 hb2 hB2
        gi_wp2
        refine ⟨by (repeat (first | (with_reducible exact KeepBook.refl _) | (with_reducible refine KeepBook.alloc ?_ _) | (with_reducible refine KeepBook.setCell ?_ _ _) | (with_reducible refine KeepBook.drew ?_) | (refine KeepBook.below ?_ (by assumption)))), ?_⟩
        rintro W2 hs _
        have hbx2 : Boxed W2 B 4 (.bool g2) := hs.stab _ (Stab.boxed B _ (fun _ => .bool g2)) (hbx.alloc _)
        have hst2 : StyAt wc.heap.size 0 s W2 := hs.stab _ (Stab.sty _ _ _) (hst.alloc _)
        have hB3 : Below w.heap.size w W2 := hs.stab _ (Stab.below (Nat.le_refl _) (by simp; omega)) (hBW.alloc (by have := hBW.size; omega) _)
        have hln := rangeAt_same (rangeAt_new W #[.int .i64 ln.s, .int .i64 ln.w, .int .u32 ln.c] 36) hs.cell
        have l0 : W2.cell? ⟨W.heap.size, 0, none⟩ = some (.int .i64 ln.s) := by simpa using hln 0 _ rfl
        have l1 : W2.cell? ⟨W.heap.size, 1, none⟩ = some (.int .i64 ln.w) := by simpa using hln 1 _ rfl
        have hlW : W.heap.size < W2.heap.size := by rw [hs.size]; simp
        have hfr := hbx2.frozen
        have hcl := hbx2.cell
        have hlt2 := hbx2.lt
        clear hs hln
        gi_wp2_with (first | (gi_at_call 58; (with_reducible refine (CallsIn.inRound _ (callsIn_wide.2 (areLengths_any (.slice _ 2 2) _ _ (ints_two _ _ _ _ _ (by simp))))).mono ?_); rintro e w' ⟨rfl, rfl⟩) | (gi_at_call 59; (with_reducible refine (CallsIn.inRound _ (callsIn_wide.2 (within_any _ _ (.slice _ 1 1) _ _ (ints_one _ _ _ _ (by simp))))).mono ?_); rintro e w' ⟨rfl, rfl⟩))
        · have h1 : withinB (-1073741824) 1073741824 [p, ln.w] = true := by assumption
          have h2 : (!withinB 0 9 [ln.s]) = true := by assumption
          refine ⟨by (repeat (first | (with_reducible exact KeepBook.refl _) | (with_reducible refine KeepBook.alloc ?_ _) | (with_reducible refine KeepBook.setCell ?_ _ _) | (with_reducible refine KeepBook.drew ?_) | (refine KeepBook.below ?_ (by assumption)))), rfl, ((hbx2.set _).alloc _).alloc _, ?_, by go_grown⟩
          rw [hx, List.all_append, List.all_cons]
          simp [withinB] at h2
          simp [lineB]
          omega
        · have h1 : withinB (-1073741824) 1073741824 [p, ln.w] = true := by assumption
          have h2 : (!withinB 0 9 [ln.s]) = false := by assumption
          refine ⟨by (repeat (first | (with_reducible exact KeepBook.refl _) | (with_reducible refine KeepBook.alloc ?_ _) | (with_reducible refine KeepBook.setCell ?_ _ _) | (with_reducible refine KeepBook.drew ?_) | (refine KeepBook.below ?_ (by assumption)))), (hbx2.alloc _).alloc _, ?_, (hst2.alloc _).alloc _, by go_grown⟩
          rw [List.all_append, hall]
          simp [withinB] at h1 h2
          simp [lineB, lenB]
          omega
        · have h1 : ¬ withinB (-1073741824) 1073741824 [p, ln.w] = true := by assumption
          refine ⟨by (repeat (first | (with_reducible exact KeepBook.refl _) | (with_reducible refine KeepBook.alloc ?_ _) | (with_reducible refine KeepBook.setCell ?_ _ _) | (with_reducible refine KeepBook.drew ?_) | (refine KeepBook.below ?_ (by assumption)))), rfl, (hbx2.set _).alloc _, ?_, by go_grown⟩
          rw [hx, List.all_append, List.all_cons]
          simp [withinB] at h1
          simp [lineB, lenB]
          omega
      case done =>
        rintro D W hD ⟨hbx, hall, -, hBW⟩ hbook hd
        have hcl := hbx.cell
        go_wp2
        rw [Exit.noGoto_ret]
        refine leaves_marks (v := .bool g2) (B := w.heap.size) ⟨[D], rfl, by simp, by simp at hD ⊢; exact ⟨by omega, hd⟩⟩ (fun W' hs => ⟨?_, ?_, ?_⟩)
        · simp [results, Try.results47]
        · have hg := HG.out
          rw [validB_eq, hall, Bool.and_true, ← hg, ← HG1.out]
        · exact hs.stab _ (Stab.below (Nat.le_refl _) (Nat.le_refl _)) hBW
      case stop =>
        rintro D c W hD ⟨rfl, hbx, hall, hBW⟩ hbook hd
        have hcl := hbx.cell
        go_wp2
        rw [Exit.noGoto_ret]
        refine leaves_marks (v := .bool false) (B := w.heap.size) ⟨[D], rfl, by simp, by simp at hD ⊢; exact ⟨by omega, hd⟩⟩ (fun W' hs => ⟨?_, ?_, ?_⟩)
        · simp [results, Try.results47]
        · rw [validB_eq, hall, Bool.and_false]
        · exact hs.stab _ (Stab.below (Nat.le_refl _) (Nat.le_refl _)) hBW

end Go.Proofs.Ytjhpkikgajgdmaa
