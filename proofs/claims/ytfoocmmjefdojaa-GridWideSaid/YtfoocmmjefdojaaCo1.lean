/- Layer 13: within, isSize, the closures of Right and RightBands. -/
import Derived.Test.YtfoocmmjefdojaaIxC
import Derived.Laws.Rows
import Derived.Outline
import Derived.Shelf.Abstract
import Derived.Test.YtfoocmmjefdojaaMap
import Derived.BigQuiet
namespace Go.Proofs.Ytfoocmmjefdojaa.K
open Go.RowKit Go.Proofs.YtfoocmmjefdojaaW.PrintWords Go.Proofs.YtfoocmmjefdojaaW.PrintLast Go.Proofs.YtfoocmmjefdojaaW.PrintMore
set_option linter.unusedVariables false
set_option linter.unusedSimpArgs false

def withinB (a b : Int) (l : List Int) : Bool := !l.any fun n => decide (n < a) || decide (n > b)

theorem within1_any (n a b : Int) (B1 B2 : Nat) (w : World) (h1 : w.cell? ⟨B1, 0, none⟩ = some (.int .i64 a)) (h2 : w.cell? ⟨B2, 0, none⟩ = some (.int .i64 b)) :
    Calls Try.prog 60 #[.int .i64 n, .pointer (some ⟨B1, 0, none⟩), .pointer (some ⟨B2, 0, none⟩)] w fun e w' => e = .returned (.bool (decide (n < a) || decide (n > b))) ∧ w = w' := by
  go_enter Try.func60, Try.ntmps60
  by_cases hn : n < a
  · go_wp2
    go_ret
    exact ⟨by simp [hn], rfl⟩
  · go_wp2
    go_ret
    exact ⟨by simp; omega, rfl⟩

theorem within_any (a b : Int) (A : Option Addr) (c : Nat) (l : List Int) (w : World) (hr : Kd.C (Kd.int .i64) w A l.length l) (hc : l.length ≤ c) :
    Calls Try.prog 49 #[.int .i64 a, .int .i64 b, .slice A l.length c] w fun e w' => e = .returned (.bool (withinB a b l)) ∧ Below w.heap.size w w' := by
  have HW := Lib.hid fun (W : World) (B1 B2 : Nat) (hB1 : B1 < W.heap.size) (hB2 : B2 < W.heap.size) (h1 : W.cell? ⟨B1, 0, none⟩ = some (.int .i64 a)) (h2 : W.cell? ⟨B2, 0, none⟩ = some (.int .i64 b)) (hl : Kd.C (Kd.int .i64) W A l.length l) =>
    contains_i64 60 #[.pointer (some ⟨B1, 0, none⟩), .pointer (some ⟨B2, 0, none⟩)] (fun n => decide (n < a) || decide (n > b)) (enters_of Try.func60 (by kernel_rfl) rfl) A c l W
      (fun W2 x cs hb _ hK _ => by
        have hK' : cs = [.int .i64 x] := hK
        subst hK'
        exact (within1_any x a b B1 B2 W2 ((hb.cell hB1).trans h1) ((hb.cell hB2).trans h2)).mono fun _ _ ⟨he, hw⟩ => ⟨he, hw ▸ Below.refl _ _⟩) hl hc
  have HR := Lib.hid hr
  clear hr
  go_enter Try.func49, Try.ntmps49
  go_wp2_with (go_at_call 59; refine (HW.out _ w.heap.size (w.heap.size + 1) (by simp; omega) (by simp) (by simp) (by simp) (Kd.C_alloc (Kd.C_alloc HR.out _) _)).mono ?_; rintro e w' ⟨rfl, hb⟩)
  go_ret
  exact ⟨rfl, ((Below.refl _ _).alloc (Nat.le_refl _) _ |>.alloc (by simp) _).trans (hb.mono (by simp; omega))⟩

def isSizeB (k n : Int) : Bool := decide (k = 0 ∧ n = 0) || decide (k = 1 ∧ 0 ≤ n ∧ n ≤ 1073741824) || decide (k = 2 ∧ 0 ≤ n ∧ n ≤ 10000000)

def mostV : Int → Option Value := upd (upd (fun _ => none) 1 (.int .i64 1073741824)) 2 (.int .i64 10000000)

theorem isSize_k (k n m : Int) (hk : k = 0 ∨ k = 1 ∨ k = 2) (hm : (mostV k).getD (.int .i64 0) = .int .i64 m) (w : World) :
    Calls Try.prog 46 #[.agg #[.int .i64 k, .int .i64 n]] w fun e w' => e = .returned (.bool (withinB 0 m [n])) ∧ Below w.heap.size w w' := by
  have hmm := @run_makeMap Try.prog
  have M0 := MapIs.made (key := Value.int .i64) (w.alloc (.cells #[.int .i64 k, .int .i64 n] 58))
  obtain ⟨w3, r1, m1, t1⟩ := M0.update (P := Try.prog) (keyOK_int Try.underlying3) Try.underlying101 1 (.int .i64 1073741824)
  obtain ⟨w4, r2, m2, t2⟩ := m1.update (P := Try.prog) (keyOK_int Try.underlying3) Try.underlying101 2 (.int .i64 10000000)
  have l := m2.lookup (P := Try.prog) (keyOK_int Try.underlying3) Try.underlying101 (z := .int .i64 0) (by kernel_rfl) k
  rw [show (upd (upd (fun _ => none) 1 (.int .i64 1073741824)) 2 (.int .i64 10000000) k : Option Value) = mostV k from rfl, hm] at l
  have hB : Below w.heap.size w w4 := t2.below (t1.below (((Below.refl _ w).alloc (Nat.le_refl _) _).alloc (by simp) _) (by simp)) (by simp)
  have c0 : w4.cell? ⟨w.heap.size, 0, none⟩ = some (.int .i64 k) := by rw [t2.cell, t1.cell]; simp
  have c1 : w4.cell? ⟨w.heap.size, 1, none⟩ = some (.int .i64 n) := by rw [t2.cell, t1.cell]; simp
  have hs : w4.heap.size = w.heap.size + 2 := by rw [t2.size, t1.size]; simp
  have HW := Lib.hid fun (W : World) => within_any 0 m (some ⟨W.heap.size, 0, none⟩) 1 [n] (W.alloc (.cells #[.int .i64 n] 2)) ⟨rfl, by simp, fun _ => ⟨_, rfl, fun j p hj => ⟨[.int .i64 n], rfl, by
    obtain rfl : j = 0 := by have := (List.getElem?_eq_some_iff.1 hj).1; simpa using this
    simp at hj; subst hj; rfl, fun i u hu => by
    obtain rfl : i = 0 := by have := (List.getElem?_eq_some_iff.1 hu).1; simpa using this
    obtain rfl : j = 0 := by have := (List.getElem?_eq_some_iff.1 hj).1; simpa using this
    simp at hu; subst hu; simp [Addr.add]⟩⟩⟩ (Nat.le_refl _)
  have HB := Lib.hid hB
  have HM := Lib.hid hm
  have hsz : w.heap.size < w4.heap.size := by omega
  clear M0 m1 m2 t1 t2 hB hm hs
  simp only [World.size_alloc] at r1 r2 l
  rcases hk with rfl | rfl | rfl
  all_goals
    go_enter Try.func46, Try.ntmps46
    go_wp2_with (go_at_call 49; refine (HW.out _).mono ?_; rintro e w' ⟨rfl, hb⟩)
    go_ret
    exact ⟨rfl, (HB.out.alloc HB.out.size _).trans (hb.mono (by have := HB.out.size; simp; omega))⟩

theorem withinB_one (a b n : Int) : withinB a b [n] = decide (a ≤ n ∧ n ≤ b) := by
  simp only [withinB, List.any_cons, List.any_nil, Bool.or_false]
  rw [Bool.eq_iff_iff]
  simp
theorem withinB_two (a b n m : Int) : withinB a b [n, m] = decide ((a ≤ n ∧ n ≤ b) ∧ a ≤ m ∧ m ≤ b) := by
  simp only [withinB, List.any_cons, List.any_nil, Bool.or_false]
  rw [Bool.eq_iff_iff]
  simp

theorem isSize_any (k n : Int) (w : World) :
    Calls Try.prog 46 #[.agg #[.int .i64 k, .int .i64 n]] w fun e w' => e = .returned (.bool (isSizeB k n)) ∧ Below w.heap.size w w' := by
  by_cases h0 : k = 0
  · subst h0
    have := isSize_k 0 n 0 (.inl rfl) rfl w
    rw [withinB_one] at this
    rwa [show isSizeB 0 n = decide (0 ≤ n ∧ n ≤ 0) by unfold isSizeB; rw [Bool.eq_iff_iff]; simp; omega]
  by_cases h1 : k = 1
  · subst h1
    have := isSize_k 1 n 1073741824 (.inr (.inl rfl)) rfl w
    rw [withinB_one] at this
    rwa [show isSizeB 1 n = decide (0 ≤ n ∧ n ≤ 1073741824) by simp [isSizeB]]
  by_cases h2 : k = 2
  · subst h2
    have := isSize_k 2 n 10000000 (.inr (.inr rfl)) rfl w
    rw [withinB_one] at this
    rwa [show isSizeB 2 n = decide (0 ≤ n ∧ n ≤ 10000000) by simp [isSizeB]]
  have e0 : (k == 0) = false := by simpa using h0
  have e1 : (k == 1) = false := by simpa using h1
  have e2 : (k == 2) = false := by simpa using h2
  have hb : isSizeB k n = false := by simp [isSizeB, h0, h1, h2]
  rw [hb]
  clear hb h0 h1 h2
  go_enter Try.func46, Try.ntmps46
  go_wp2
  go_ret
  exact ⟨rfl, (Below.refl _ _).alloc (Nat.le_refl _) _⟩

theorem right1_any (k n : Int) (w : World) :
    Calls Try.prog 45 #[.agg #[.int .i64 k, .int .i64 n]] w fun e w' => e = .returned (.bool (!isSizeB k n)) ∧ Below w.heap.size w w' := by
  have HI := Lib.hid fun (W : World) => isSize_any k n W
  go_enter Try.func45, Try.ntmps45
  go_wp2_with (go_at_call 46; refine (HI.out _).mono ?_; rintro e w' ⟨rfl, hb⟩)
  go_ret
  exact ⟨rfl, ((Below.refl _ _).alloc (Nat.le_refl _) _).trans (hb.mono (by simp))⟩

/-- a slice that is laid out here -/
theorem c_two (W : World) (a b : Int) : Kd.C (Kd.int .i64) (W.alloc (.cells #[.int .i64 a, .int .i64 b] 2)) (some ⟨W.heap.size, 0, none⟩) [a, b].length [a, b] :=
  ⟨rfl, by simp, fun _ => ⟨_, rfl, fun j p hj => by
    match j, hj with
    | 0, hj => simp at hj; subst hj; exact ⟨[.int .i64 a], rfl, rfl, fun i u hu => by
        obtain rfl : i = 0 := by have := (List.getElem?_eq_some_iff.1 hu).1; simpa using this
        simp at hu; subst hu; simp [Addr.add]⟩
    | 1, hj => simp at hj; subst hj; exact ⟨[.int .i64 b], rfl, rfl, fun i u hu => by
        obtain rfl : i = 0 := by have := (List.getElem?_eq_some_iff.1 hu).1; simpa using this
        simp at hu; subst hu; simp [Addr.add, Kd.int, Kd.scalar]⟩⟩⟩
theorem c_one (W : World) (a : Int) : Kd.C (Kd.int .i64) (W.alloc (.cells #[.int .i64 a] 2)) (some ⟨W.heap.size, 0, none⟩) [a].length [a] :=
  ⟨rfl, by simp, fun _ => ⟨_, rfl, fun j p hj => by
    match j, hj with
    | 0, hj => simp at hj; subst hj; exact ⟨[.int .i64 a], rfl, rfl, fun i u hu => by
        obtain rfl : i = 0 := by have := (List.getElem?_eq_some_iff.1 hu).1; simpa using this
        simp at hu; subst hu; simp [Addr.add]⟩⟩⟩

def needB (n : Nat) (x : S60) : Bool :=
  decide (0 ≤ x.f0.f2 ∧ x.f0.f2 < n ∧ 1 ≤ x.f0.f4 ∧ x.f0.f4 ≤ n - x.f0.f2) && isSizeB x.f3.f0 x.f3.f1 && decide (0 ≤ x.f1 ∧ x.f1 ≤ x.f2 ∧ x.f2 ≤ 1125899906842623)

theorem bcells {W w1 : World} (hb : Below W.heap.size W w1) : (∀ b o, b < W.heap.size → w1.cell? ⟨b, o, none⟩ = W.cell? ⟨b, o, none⟩) ∧ (∀ b o, b < W.heap.size → w1.frozen? ⟨b, o, none⟩ = W.frozen? ⟨b, o, none⟩) :=
  ⟨fun b o h => hb.cell (p := ⟨b, o, none⟩) h, fun b o h => hb.frozen (p := ⟨b, o, none⟩) h⟩
theorem ret_b {a b : Bool} (h : a = b) : Ending.returned (.bool a) = Ending.returned (.bool b) := by rw [h]

set_option maxHeartbeats 4000000 in
set_option maxRecDepth 100000 in
theorem right2_any (x : S60) (B : Nat) (A : Option Addr) (n c : Nat) (w : World) (hB : B < w.heap.size) (hc : w.cell? ⟨B, 0, none⟩ = some (.slice A n c)) (hn : n ≤ 9223372036854775807) :
    Calls Try.prog 48 #[.agg #[.int .i64 x.f0.f0, .int .i64 x.f0.f1, .int .i64 x.f0.f2, .int .i64 x.f0.f3, .int .i64 x.f0.f4, .int .i64 x.f1, .int .i64 x.f2, .int .i64 x.f3.f0, .int .i64 x.f3.f1], .pointer (some ⟨B, 0, none⟩)] w
      fun e w' => e = .returned (.bool (!needB n x)) ∧ Below w.heap.size w w' := by
  obtain ⟨⟨p0, p1, p2, p3, p4⟩, mn, mx, ⟨wk, wn⟩⟩ := x
  dsimp only
  have HI := Lib.hid fun (W : World) => isSize_any wk wn W
  have HW := Lib.hid fun (W : World) => within_any 0 1125899906842623 _ 2 _ _ (c_two W mn mx) (Nat.le_refl _)
  simp only [withinB_two] at HW
  obtain ⟨sb, hsb⟩ : ∃ sb, sb = isSizeB wk wn := ⟨_, rfl⟩
  rw [← hsb] at HI
  obtain ⟨R, hR⟩ : ∃ R, R = !needB n ⟨⟨p0, p1, p2, p3, p4⟩, mn, mx, ⟨wk, wn⟩⟩ := ⟨_, rfl⟩
  rw [← hR]
  have HR : R = !(decide (0 ≤ p2 ∧ p2 < n ∧ 1 ≤ p4 ∧ p4 ≤ n - p2) && sb && decide (0 ≤ mn ∧ mn ≤ mx ∧ mx ≤ 1125899906842623)) := by rw [hR, hsb]; rfl
  clear hR
  have HS := Lib.hid HR
  clear HR hsb
  cases sb
  all_goals
    go_enter Try.func48, Try.ntmps48
    go_wp2_with (first | (go_at_call 46; refine (HI.out _).mono ?_; rintro e w' ⟨rfl, hb⟩; have hcc := (bcells hb).1; have hff := (bcells hb).2; have hzz := hb.size; simp only [World.size_alloc] at hzz; have hz1 : w.heap.size < w'.heap.size := (by omega); have hz2 : w.heap.size + 1 < w'.heap.size := (by omega); have hz3 : w.heap.size < w'.heap.size + 1 := (by omega); have hz4 : w.heap.size + 1 < w'.heap.size + 1 := (by omega); have hB1 : Below w.heap.size w w' := ((((Below.refl _ w).alloc (Nat.le_refl _) _).alloc (by simp) _).trans (hb.mono (by simp; omega)))) | (go_at_call 49; refine (HW.out _).mono ?_; rintro e w'' ⟨rfl, hb2⟩; have hcc2 := (bcells hb2).1; have hff2 := (bcells hb2).2; have hzz2 := hb2.size; simp only [World.size_alloc] at hzz2; have hB2 : Below w.heap.size w w'' := ((hB1.alloc hB1.size _).trans (hb2.mono (by simp; omega)))))
    all_goals go_ret
    all_goals refine ⟨ret_b ?_, ?_⟩
  all_goals first
    | (rw [HS.out, Bool.eq_iff_iff]; simp; done)
    | (rw [HS.out, Bool.eq_iff_iff]; simp; omega)
    | go_grown
    | assumption
end Go.Proofs.Ytfoocmmjefdojaa.K
