-- PRINTED by print.py (a twelfth state) out of the translation. Not trusted: Lean checks it.
import Derived.Test.YtfoocmmjefdojaaK0
import Derived.Test.YtfoocmmjefdojaaK6
import Derived.Test.YtfoocmmjefdojaaK7
namespace Go.Proofs.Ytfoocmmjefdojaa.K
open Go.RowKit Go.Proofs.YtfoocmmjefdojaaW.PrintWords Go.Proofs.YtfoocmmjefdojaaW.PrintLast Go.Proofs.YtfoocmmjefdojaaW.PrintMore
attribute [local go_sem] max2_int min2_int max_two min_two max_three min_three max_four min_four   -- for this text's walks alone
set_option linter.unusedVariables false
set_option linter.unusedSimpArgs false

/-! ### purflingref07_Lay: function 18 -/
mutual
def purflingref07_Lay.l0 : Nat → List (List (S34)) → List Int → List (S40) → Int → Int → Option ((List (S40)) × Int × Int)
  | 0, _, _, _, _, _ => none
  | k + 1, x0, x1, x8, x9, x10 => if x10 < (x0.length : Int) then (purflingref07_Lay.l1 k x0 x1 x8 x9 x10 0 0) else (some (x8, x9, 0))
def purflingref07_Lay.l1 : Nat → List (List (S34)) → List Int → List (S40) → Int → Int → Int → Int → Option ((List (S40)) × Int × Int)
  | 0, _, _, _, _, _, _, _ => none
  | k + 1, x0, x1, x8, x9, x10, x11, x12 => if 0 ≤ x10 then (if x10 < (x0.length : Int) then (if x12 < ((rd_L2 x0 x10).length : Int) then (if 0 ≤ x12 then (purflingref07_Lay.l2 k x0 x1 x8 x9 x10 x11 x12 ((rd_T34 (rd_L2 x0 x10) x12).f0) ((rd_T34 (rd_L2 x0 x10) x12).f1) ((rd_T34 (rd_L2 x0 x10) x12).f2)) else (none)) else (purflingref07_Lay.l0 k x0 x1 x8 x9 (wrap64 (x10 + 1)))) else (none)) else (none)
def purflingref07_Lay.l2 : Nat → List (List (S34)) → List Int → List (S40) → Int → Int → Int → Int → Int → Int → Int → Option ((List (S40)) × Int × Int)
  | 0, _, _, _, _, _, _, _, _, _, _ => none
  | k + 1, x0, x1, x8, x9, x10, x11, x12, x162000, x162001, x162002 => (purflingref07_taken.f k x8 x10 x11).bind fun t162 => (if t162 = true then (purflingref07_Lay.l2 k x0 x1 x8 x9 x10 (wrap64 (x11 + 1)) x12 x162000 x162001 x162002) else (purflingref07_Lay.l3 k x0 x1 x8 x9 x10 x11 x12 1 x162000 x162001 x162002))
def purflingref07_Lay.j4 : Nat → List (List (S34)) → List Int → List (S40) → Int → Int → Int → Int → Int → Int → Int → Int → Option ((List (S40)) × Int × Int)
  | 0, _, _, _, _, _, _, _, _, _, _, _ => none
  | k + 1, x0, x1, x8, x9, x10, x11, x12, x14, x162000, x162001, x162002 => if x162002 = 0 then (purflingref07_Lay.j5 k x0 x1 x8 x9 x10 x11 x12 x14 x162002 true x162000 x162001 x162002) else (if 0 ≤ x10 then (if x10 < (x1.length : Int) then (purflingref07_Lay.j5 k x0 x1 x8 x9 x10 x11 x12 x14 x162002 (decide (x162002 > (wrap64 ((rd x1 x10) - x10)))) x162000 x162001 x162002) else (none)) else (none))
def purflingref07_Lay.j5 : Nat → List (List (S34)) → List Int → List (S40) → Int → Int → Int → Int → Int → Int → Bool → Int → Int → Int → Option ((List (S40)) × Int × Int)
  | 0, _, _, _, _, _, _, _, _, _, _, _, _, _ => none
  | k + 1, x0, x1, x8, x9, x10, x11, x12, x14, x15, x77, x162000, x162001, x162002 => if x77 = true then (if 0 ≤ x10 then (if x10 < (x1.length : Int) then (if x8.length < 3518437208883 then (if (mx x9 (wrap64 (x11 + x14))) > 10000 then (some (([] : List (S40)), 0, 43)) else (purflingref07_Lay.l1 k x0 x1 (x8 ++ [(⟨x162000, x10, x11, wrap64 ((rd x1 x10) - x10), x14⟩ : S40)]) (mx x9 (wrap64 (x11 + x14))) x10 (wrap64 (x11 + x14)) (wrap64 (x12 + 1)))) else (none)) else (none)) else (none)) else (if x8.length < 3518437208883 then (if (mx x9 (wrap64 (x11 + x14))) > 10000 then (some (([] : List (S40)), 0, 43)) else (purflingref07_Lay.l1 k x0 x1 (x8 ++ [(⟨x162000, x10, x11, x15, x14⟩ : S40)]) (mx x9 (wrap64 (x11 + x14))) x10 (wrap64 (x11 + x14)) (wrap64 (x12 + 1)))) else (none))
def purflingref07_Lay.l3 : Nat → List (List (S34)) → List Int → List (S40) → Int → Int → Int → Int → Int → Int → Int → Int → Option ((List (S40)) × Int × Int)
  | 0, _, _, _, _, _, _, _, _, _, _, _ => none
  | k + 1, x0, x1, x8, x9, x10, x11, x12, x14, x162000, x162001, x162002 => if x14 < x162001 then ((purflingref07_taken.f k x8 x10 (wrap64 (x11 + x14))).bind fun t163 => (if t163 = true then (purflingref07_Lay.j4 k x0 x1 x8 x9 x10 x11 x12 x14 x162000 x162001 x162002) else (purflingref07_Lay.l3 k x0 x1 x8 x9 x10 x11 x12 (wrap64 (x14 + 1)) x162000 x162001 x162002))) else (purflingref07_Lay.j4 k x0 x1 x8 x9 x10 x11 x12 x14 x162000 x162001 x162002)
end
def purflingref07_Lay.f (k : Nat) (l0 : List (List (S34))) (l1 : List Int) : Option ((List (S40)) × Int × Int) := (purflingref07_Right.f k l0 l1).bind fun t157 => (if t157 = true then (purflingref07_Lay.l0 k l0 l1 ([] : List (S40)) 0 0) else (some (([] : List (S40)), 0, 70)))
theorem purflingref07_Lay.mono_l : ∀ k, (∀ y0 y1 y2 y3 y4, LeO (purflingref07_Lay.l0 k y0 y1 y2 y3 y4) (purflingref07_Lay.l0 (k + 1) y0 y1 y2 y3 y4)) ∧ (∀ y0 y1 y2 y3 y4 y5 y6, LeO (purflingref07_Lay.l1 k y0 y1 y2 y3 y4 y5 y6) (purflingref07_Lay.l1 (k + 1) y0 y1 y2 y3 y4 y5 y6)) ∧ (∀ y0 y1 y2 y3 y4 y5 y6 y7 y8 y9, LeO (purflingref07_Lay.l2 k y0 y1 y2 y3 y4 y5 y6 y7 y8 y9) (purflingref07_Lay.l2 (k + 1) y0 y1 y2 y3 y4 y5 y6 y7 y8 y9)) ∧ (∀ y0 y1 y2 y3 y4 y5 y6 y7 y8 y9 y10, LeO (purflingref07_Lay.j4 k y0 y1 y2 y3 y4 y5 y6 y7 y8 y9 y10) (purflingref07_Lay.j4 (k + 1) y0 y1 y2 y3 y4 y5 y6 y7 y8 y9 y10)) ∧ (∀ y0 y1 y2 y3 y4 y5 y6 y7 y8 y9 y10 y11 y12, LeO (purflingref07_Lay.j5 k y0 y1 y2 y3 y4 y5 y6 y7 y8 y9 y10 y11 y12) (purflingref07_Lay.j5 (k + 1) y0 y1 y2 y3 y4 y5 y6 y7 y8 y9 y10 y11 y12)) ∧ (∀ y0 y1 y2 y3 y4 y5 y6 y7 y8 y9 y10, LeO (purflingref07_Lay.l3 k y0 y1 y2 y3 y4 y5 y6 y7 y8 y9 y10) (purflingref07_Lay.l3 (k + 1) y0 y1 y2 y3 y4 y5 y6 y7 y8 y9 y10))
  | 0 => ⟨fun _ _ _ _ _ r h => by simp [purflingref07_Lay.l0] at h, fun _ _ _ _ _ _ _ r h => by simp [purflingref07_Lay.l1] at h, fun _ _ _ _ _ _ _ _ _ _ r h => by simp [purflingref07_Lay.l2] at h, fun _ _ _ _ _ _ _ _ _ _ _ r h => by simp [purflingref07_Lay.j4] at h, fun _ _ _ _ _ _ _ _ _ _ _ _ _ r h => by simp [purflingref07_Lay.j5] at h, fun _ _ _ _ _ _ _ _ _ _ _ r h => by simp [purflingref07_Lay.l3] at h⟩
  | k + 1 => by
    obtain ⟨ih0, ih1, ih2, ih3, ih4, ih5⟩ := purflingref07_Lay.mono_l k
    refine ⟨?_, ?_, ?_, ?_, ?_, ?_⟩
    · intro y0 y1 y2 y3 y4
      unfold purflingref07_Lay.l0
      repeat' first
      | (with_reducible exact ih0 _ _ _ _ _)
      | (with_reducible exact ih1 _ _ _ _ _ _ _)
      | (with_reducible exact ih2 _ _ _ _ _ _ _ _ _ _)
      | (with_reducible exact ih3 _ _ _ _ _ _ _ _ _ _ _)
      | (with_reducible exact ih4 _ _ _ _ _ _ _ _ _ _ _ _ _)
      | (with_reducible exact ih5 _ _ _ _ _ _ _ _ _ _ _)
      | (with_reducible exact purflingref07_Right.mono _ _ _)
      | (with_reducible exact purflingref07_taken.mono _ _ _ _)
      | (with_reducible exact LeO.refl _)
      | (with_reducible exact LeO.none _)
      | (with_reducible refine LeO.ite ?_ ?_)
      | (with_reducible refine LeO.bind ?_ (fun _ => ?_))
      | exact ih0 _ _ _ _ _
      | exact ih1 _ _ _ _ _ _ _
      | exact ih2 _ _ _ _ _ _ _ _ _ _
      | exact ih3 _ _ _ _ _ _ _ _ _ _ _
      | exact ih4 _ _ _ _ _ _ _ _ _ _ _ _ _
      | exact ih5 _ _ _ _ _ _ _ _ _ _ _
      | exact purflingref07_Right.mono _ _ _
      | exact purflingref07_taken.mono _ _ _ _
      | exact LeO.none _
      | refine LeO.ite ?_ ?_
      | refine LeO.bind ?_ (fun _ => ?_)
    · intro y0 y1 y2 y3 y4 y5 y6
      unfold purflingref07_Lay.l1
      repeat' first
      | (with_reducible exact ih0 _ _ _ _ _)
      | (with_reducible exact ih1 _ _ _ _ _ _ _)
      | (with_reducible exact ih2 _ _ _ _ _ _ _ _ _ _)
      | (with_reducible exact ih3 _ _ _ _ _ _ _ _ _ _ _)
      | (with_reducible exact ih4 _ _ _ _ _ _ _ _ _ _ _ _ _)
      | (with_reducible exact ih5 _ _ _ _ _ _ _ _ _ _ _)
      | (with_reducible exact purflingref07_Right.mono _ _ _)
      | (with_reducible exact purflingref07_taken.mono _ _ _ _)
      | (with_reducible exact LeO.refl _)
      | (with_reducible exact LeO.none _)
      | (with_reducible refine LeO.ite ?_ ?_)
      | (with_reducible refine LeO.bind ?_ (fun _ => ?_))
      | exact ih0 _ _ _ _ _
      | exact ih1 _ _ _ _ _ _ _
      | exact ih2 _ _ _ _ _ _ _ _ _ _
      | exact ih3 _ _ _ _ _ _ _ _ _ _ _
      | exact ih4 _ _ _ _ _ _ _ _ _ _ _ _ _
      | exact ih5 _ _ _ _ _ _ _ _ _ _ _
      | exact purflingref07_Right.mono _ _ _
      | exact purflingref07_taken.mono _ _ _ _
      | exact LeO.none _
      | refine LeO.ite ?_ ?_
      | refine LeO.bind ?_ (fun _ => ?_)
    · intro y0 y1 y2 y3 y4 y5 y6 y7 y8 y9
      unfold purflingref07_Lay.l2
      repeat' first
      | (with_reducible exact ih0 _ _ _ _ _)
      | (with_reducible exact ih1 _ _ _ _ _ _ _)
      | (with_reducible exact ih2 _ _ _ _ _ _ _ _ _ _)
      | (with_reducible exact ih3 _ _ _ _ _ _ _ _ _ _ _)
      | (with_reducible exact ih4 _ _ _ _ _ _ _ _ _ _ _ _ _)
      | (with_reducible exact ih5 _ _ _ _ _ _ _ _ _ _ _)
      | (with_reducible exact purflingref07_Right.mono _ _ _)
      | (with_reducible exact purflingref07_taken.mono _ _ _ _)
      | (with_reducible exact LeO.refl _)
      | (with_reducible exact LeO.none _)
      | (with_reducible refine LeO.ite ?_ ?_)
      | (with_reducible refine LeO.bind ?_ (fun _ => ?_))
      | exact ih0 _ _ _ _ _
      | exact ih1 _ _ _ _ _ _ _
      | exact ih2 _ _ _ _ _ _ _ _ _ _
      | exact ih3 _ _ _ _ _ _ _ _ _ _ _
      | exact ih4 _ _ _ _ _ _ _ _ _ _ _ _ _
      | exact ih5 _ _ _ _ _ _ _ _ _ _ _
      | exact purflingref07_Right.mono _ _ _
      | exact purflingref07_taken.mono _ _ _ _
      | exact LeO.none _
      | refine LeO.ite ?_ ?_
      | refine LeO.bind ?_ (fun _ => ?_)
    · intro y0 y1 y2 y3 y4 y5 y6 y7 y8 y9 y10
      unfold purflingref07_Lay.j4
      repeat' first
      | (with_reducible exact ih0 _ _ _ _ _)
      | (with_reducible exact ih1 _ _ _ _ _ _ _)
      | (with_reducible exact ih2 _ _ _ _ _ _ _ _ _ _)
      | (with_reducible exact ih3 _ _ _ _ _ _ _ _ _ _ _)
      | (with_reducible exact ih4 _ _ _ _ _ _ _ _ _ _ _ _ _)
      | (with_reducible exact ih5 _ _ _ _ _ _ _ _ _ _ _)
      | (with_reducible exact purflingref07_Right.mono _ _ _)
      | (with_reducible exact purflingref07_taken.mono _ _ _ _)
      | (with_reducible exact LeO.refl _)
      | (with_reducible exact LeO.none _)
      | (with_reducible refine LeO.ite ?_ ?_)
      | (with_reducible refine LeO.bind ?_ (fun _ => ?_))
      | exact ih0 _ _ _ _ _
      | exact ih1 _ _ _ _ _ _ _
      | exact ih2 _ _ _ _ _ _ _ _ _ _
      | exact ih3 _ _ _ _ _ _ _ _ _ _ _
      | exact ih4 _ _ _ _ _ _ _ _ _ _ _ _ _
      | exact ih5 _ _ _ _ _ _ _ _ _ _ _
      | exact purflingref07_Right.mono _ _ _
      | exact purflingref07_taken.mono _ _ _ _
      | exact LeO.none _
      | refine LeO.ite ?_ ?_
      | refine LeO.bind ?_ (fun _ => ?_)
    · intro y0 y1 y2 y3 y4 y5 y6 y7 y8 y9 y10 y11 y12
      unfold purflingref07_Lay.j5
      repeat' first
      | (with_reducible exact ih0 _ _ _ _ _)
      | (with_reducible exact ih1 _ _ _ _ _ _ _)
      | (with_reducible exact ih2 _ _ _ _ _ _ _ _ _ _)
      | (with_reducible exact ih3 _ _ _ _ _ _ _ _ _ _ _)
      | (with_reducible exact ih4 _ _ _ _ _ _ _ _ _ _ _ _ _)
      | (with_reducible exact ih5 _ _ _ _ _ _ _ _ _ _ _)
      | (with_reducible exact purflingref07_Right.mono _ _ _)
      | (with_reducible exact purflingref07_taken.mono _ _ _ _)
      | (with_reducible exact LeO.refl _)
      | (with_reducible exact LeO.none _)
      | (with_reducible refine LeO.ite ?_ ?_)
      | (with_reducible refine LeO.bind ?_ (fun _ => ?_))
      | exact ih0 _ _ _ _ _
      | exact ih1 _ _ _ _ _ _ _
      | exact ih2 _ _ _ _ _ _ _ _ _ _
      | exact ih3 _ _ _ _ _ _ _ _ _ _ _
      | exact ih4 _ _ _ _ _ _ _ _ _ _ _ _ _
      | exact ih5 _ _ _ _ _ _ _ _ _ _ _
      | exact purflingref07_Right.mono _ _ _
      | exact purflingref07_taken.mono _ _ _ _
      | exact LeO.none _
      | refine LeO.ite ?_ ?_
      | refine LeO.bind ?_ (fun _ => ?_)
    · intro y0 y1 y2 y3 y4 y5 y6 y7 y8 y9 y10
      unfold purflingref07_Lay.l3
      repeat' first
      | (with_reducible exact ih0 _ _ _ _ _)
      | (with_reducible exact ih1 _ _ _ _ _ _ _)
      | (with_reducible exact ih2 _ _ _ _ _ _ _ _ _ _)
      | (with_reducible exact ih3 _ _ _ _ _ _ _ _ _ _ _)
      | (with_reducible exact ih4 _ _ _ _ _ _ _ _ _ _ _ _ _)
      | (with_reducible exact ih5 _ _ _ _ _ _ _ _ _ _ _)
      | (with_reducible exact purflingref07_Right.mono _ _ _)
      | (with_reducible exact purflingref07_taken.mono _ _ _ _)
      | (with_reducible exact LeO.refl _)
      | (with_reducible exact LeO.none _)
      | (with_reducible refine LeO.ite ?_ ?_)
      | (with_reducible refine LeO.bind ?_ (fun _ => ?_))
      | exact ih0 _ _ _ _ _
      | exact ih1 _ _ _ _ _ _ _
      | exact ih2 _ _ _ _ _ _ _ _ _ _
      | exact ih3 _ _ _ _ _ _ _ _ _ _ _
      | exact ih4 _ _ _ _ _ _ _ _ _ _ _ _ _
      | exact ih5 _ _ _ _ _ _ _ _ _ _ _
      | exact purflingref07_Right.mono _ _ _
      | exact purflingref07_taken.mono _ _ _ _
      | exact LeO.none _
      | refine LeO.ite ?_ ?_
      | refine LeO.bind ?_ (fun _ => ?_)
theorem purflingref07_Lay.mono : ∀ a0 a1 k, LeO (purflingref07_Lay.f k a0 a1) (purflingref07_Lay.f (k + 1) a0 a1) := by
  intro a0 a1 k
  obtain ⟨ih0, ih1, ih2, ih3, ih4, ih5⟩ := purflingref07_Lay.mono_l k
  unfold purflingref07_Lay.f
  repeat' first
      | (with_reducible exact ih0 _ _ _ _ _)
      | (with_reducible exact ih1 _ _ _ _ _ _ _)
      | (with_reducible exact ih2 _ _ _ _ _ _ _ _ _ _)
      | (with_reducible exact ih3 _ _ _ _ _ _ _ _ _ _ _)
      | (with_reducible exact ih4 _ _ _ _ _ _ _ _ _ _ _ _ _)
      | (with_reducible exact ih5 _ _ _ _ _ _ _ _ _ _ _)
      | (with_reducible exact purflingref07_Right.mono _ _ _)
      | (with_reducible exact purflingref07_taken.mono _ _ _ _)
      | (with_reducible exact LeO.refl _)
      | (with_reducible exact LeO.none _)
      | (with_reducible refine LeO.ite ?_ ?_)
      | (with_reducible refine LeO.bind ?_ (fun _ => ?_))
      | exact ih0 _ _ _ _ _
      | exact ih1 _ _ _ _ _ _ _
      | exact ih2 _ _ _ _ _ _ _ _ _ _
      | exact ih3 _ _ _ _ _ _ _ _ _ _ _
      | exact ih4 _ _ _ _ _ _ _ _ _ _ _ _ _
      | exact ih5 _ _ _ _ _ _ _ _ _ _ _
      | exact purflingref07_Right.mono _ _ _
      | exact purflingref07_taken.mono _ _ _ _
      | exact LeO.none _
      | refine LeO.ite ?_ ?_
      | refine LeO.bind ?_ (fun _ => ?_)
set_option maxHeartbeats 8000000 in
set_option maxRecDepth 100000 in
theorem purflingref07_Lay.calls (k : Nat) (A0 : Option Addr) (c0 : Nat) (l0 : List (List (S34))) (A1 : Option Addr) (c1 : Nat) (l1 : List Int) (r1 : List (S40)) (r2 : Int) (r3 : Int) (w : World) (hr0 : Kd.C (Kd.slice 34 k34) w A0 l0.length l0) (hc0 : l0.length ≤ c0) (hr1 : Kd.C (Kd.int .i64) w A1 l1.length l1) (hc1 : l1.length ≤ c1) (h : purflingref07_Lay.f k l0 l1 = some (r1, r2, r3)) :
    Calls Try.prog 18 #[.slice A0 l0.length c0, .slice A1 l1.length c1] w fun e w' => ∃ v0_ : Value, e = .returned (.tuple #[v0_, .int .i64 r2, .int .i64 r3]) ∧ Kd.R k40 40 w' w.heap.size (fun _ => True) v0_ r1 ∧ Below w.heap.size w w' := by
  have hu34 := Try.underlying34
  have hu40 := Try.underlying40
  have HR0 := Aside0.mk hr0
  have HC0 := Aside0.mk hc0
  clear hr0 hc0
  have HR1 := Aside0.mk hr1
  have HC1 := Aside0.mk hc1
  clear hr1 hc1
  have HB := Aside0.mk (Below.refl w.heap.size w)
  have H : ((purflingref07_Right.f k l0 l1).bind fun t157 => (if t157 = true then (purflingref07_Lay.l0 k l0 l1 ([] : List (S40)) 0 0) else (some (([] : List (S40)), 0, 70)))) = some (r1, r2, r3) := h
  clear h
  replace H := Option.bind_eq_some_iff.mp H
  obtain ⟨t157, A30, H⟩ := H
  replace H : (if t157 = true then (purflingref07_Lay.l0 k l0 l1 ([] : List (S40)) 0 0) else (some (([] : List (S40)), 0, 70))) = some (r1, r2, r3) := H
  have A3 := Aside0.mk A30
  clear A30
  by_cases c4 : t157 = true
  · subst c4
    have H1 : (purflingref07_Lay.l0 k l0 l1 ([] : List (S40)) 0 0) = some (r1, r2, r3) := by rw [if_pos rfl] at H; exact H
    clear H
    have H := H1
    clear H1
    have H' := Aside0.mk H
    clear H
    go_enter Try.func18, Try.ntmps18
    go_wp2_with (first | ((with_reducible refine gate_callee (f := 20) rfl ?_); refine goesL_ (some 18) rfl rfl Try.func20 (by kernel_rfl) rfl #[.slice A0 l0.length c0, .slice A1 l1.length c1] rfl (by (try simp only [List.map_toArray, List.map_cons, List.map_nil]); first | done | rfl | (simp only [List.length_drop, List.length_take]; rfl)) ?_; (with_reducible refine (purflingref07_Right.calls k _ _ l0 _ _ l1 true _ ?side1 ?side2 ?side3 ?side4 A3.out).mono ?_); (case side1 => repeat (first | exact HR0.out | (with_reducible refine Kd.C_alloc ?_ _) | (with_reducible refine Kd.C_drewN ?_ _) | (with_reducible refine Kd.C_drew ?_))); (case side2 => exact HC0.out); (case side3 => repeat (first | exact HR1.out | (with_reducible refine Kd.C_alloc ?_ _) | (with_reducible refine Kd.C_drewN ?_ _) | (with_reducible refine Kd.C_drew ?_))); (case side4 => exact HC1.out); rintro e w5 ⟨rfl, hb⟩; refine ⟨_, rfl, ?_⟩; have n0_ := Aside0.mk (below_step (by repeat (first | (with_reducible first | exact HB.out | apply below_alloc | apply pw_below_drewN | apply below_drew1) | exact HB.out)) hb); clear HB; have HB := n0_; clear n0_; (try clear hb); (try clear hb2); (try clear hk); (try clear hi)))
    go_loopg [8, 9, 10] k (fun kq v8 v9 v10 w' => ∃ (x8_1 : List (S40)) (x9_1 : Int) (x10_1 : Int), v9 = .int .i64 x9_1 ∧ v10 = .int .i64 x10_1 ∧ Aside0 (purflingref07_Lay.l0 kq l0 l1 x8_1 x9_1 x10_1 = some (r1, r2, r3)) ∧ Aside0 (kq ≤ k) ∧ Aside0 (Kd.R k40 40 w' w.heap.size (fun _ => True) v8 x8_1) ∧ Aside0 (Below w.heap.size w w'))
    case atStart => exact ⟨(([] : List (S40))), (0), (0), (by first | rfl | (simp; done) | (simp [*]; done)), (by first | rfl | (simp; done) | (simp [*]; done)), H', ⟨Nat.le_refl _⟩, ⟨by first | exact Kd.R_nil _ _ _ _ _ | exact Kd.N_nil _ _ _ _ _ | exact Kd.V_nil _ _ _ _ _ | exact Kd.Q_nil _ _ _ _ _ | exact Kd.S_nil _ _ _ _ _⟩, ⟨by repeat (first | (with_reducible first | exact HB.out | apply below_alloc | apply pw_below_drewN | apply below_drew1) | exact HB.out)⟩⟩
    case round =>
      clear H'
      try clear c1
      try clear c2
      try clear p2
      try clear c4
      obtain ⟨x8_1, x9_1, x10_1, rfl, rfl, HA, HK1, HO_8, HB⟩ := hrel
      cases gk with
      | zero => exact absurd HA.out (by simp [purflingref07_Lay.l0])
      | succ k1 =>
        have H := HA.out
        clear HA
        simp only [purflingref07_Lay.l0] at H
        by_cases c6 : x10_1 < (l0.length : Int)
        · rw [if_pos c6] at H
          have c6b0 : decide (x10_1 < (l0.length : Int)) = true := decide_eq_true c6
          clear c6
          have H' := Aside0.mk H
          clear H
          go_wp2
          go_loopg [8, 9, 11, 12] k1 (fun kq v8 v9 v11 v12 w' => ∃ (x8_2 : List (S40)) (x9_2 : Int) (x11_2 : Int) (x12_2 : Int), v9 = .int .i64 x9_2 ∧ v11 = .int .i64 x11_2 ∧ v12 = .int .i64 x12_2 ∧ Aside0 (purflingref07_Lay.l1 kq l0 l1 x8_2 x9_2 x10_1 x11_2 x12_2 = some (r1, r2, r3)) ∧ Aside0 (kq ≤ k1) ∧ Aside0 (Kd.R k40 40 w' w.heap.size (fun _ => True) v8 x8_2) ∧ Aside0 (Below w.heap.size w w'))
          case atStart => exact ⟨(x8_1), (x9_1), (0), (0), (by first | rfl | (simp; done) | (simp [*]; done)), (by first | rfl | (simp; done) | (simp [*]; done)), (by first | rfl | (simp; done) | (simp [*]; done)), H', ⟨Nat.le_refl _⟩, ⟨by (with_reducible repeat (first | apply Kd.R_alloc | apply Kd.R_drewN | apply Kd.R_drew)); exact HO_8.out⟩, ⟨by repeat (first | (with_reducible first | exact HB.out | apply below_alloc | apply pw_below_drewN | apply below_drew1) | exact HB.out)⟩⟩
          case round =>
            clear H'
            try clear c1
            try clear c2
            try clear p2
            try clear c4
            try clear c6
            try clear c6b0
            try clear p2
            obtain ⟨x8_2, x9_2, x11_2, x12_2, rfl, rfl, rfl, HA, HK2, HO_8, HB⟩ := hrel
            cases gk with
            | zero => exact absurd HA.out (by simp [purflingref07_Lay.l1])
            | succ k2 =>
              have H := HA.out
              clear HA
              simp only [purflingref07_Lay.l1] at H
              by_cases c7 : 0 ≤ x10_1
              · rw [if_pos c7] at H
                have c7b0 : decide (0 ≤ x10_1) = true := decide_eq_true c7
                clear c7
                by_cases c8 : x10_1 < (l0.length : Int)
                · rw [if_pos c8] at H
                  have c8b0 : decide (x10_1 < (l0.length : Int)) = true := decide_eq_true c8
                  clear c8
                  by_cases c9 : x12_2 < ((rd_L2 l0 x10_1).length : Int)
                  · rw [if_pos c9] at H
                    have c9b0 : decide (x12_2 < ((rd_L2 l0 x10_1).length : Int)) = true := decide_eq_true c9
                    clear c9
                    by_cases c10 : 0 ≤ x12_2
                    · rw [if_pos c10] at H
                      have c10b0 : decide (0 ≤ x12_2) = true := decide_eq_true c10
                      clear c10
                      have H' := Aside0.mk H
                      clear H
                      have p158 : 0 ≤ (x10_1 : Int) := of_decide_eq_true (by first | (with_reducible assumption) | assumption)
                      have q158 : x10_1 < (l0.length : Int) := of_decide_eq_true (by first | (with_reducible assumption) | assumption)
                      obtain ⟨ad158, A158_0, c158_0, e158, hx158_0, hl158_0, hi158_0⟩ := at_L2 HR0.out x10_1 p158 q158
                      cases e158
                      replace hx158_0 := (HB.out.cell (World.block_lt_of_cell? w _ hx158_0)).trans hx158_0
                      have HR158_0 := Aside0.mk hi158_0
                      have HC158_0 := Aside0.mk hl158_0
                      clear hi158_0 hl158_0
                      replace p158 := eq_true p158
                      replace q158 := eq_true q158
                      have p159 : 0 ≤ (x10_1 : Int) := of_decide_eq_true (by first | (with_reducible assumption) | assumption)
                      have q159 : x10_1 < (l0.length : Int) := of_decide_eq_true (by first | (with_reducible assumption) | assumption)
                      obtain ⟨ad159, A159_0, c159_0, e159, hx159_0, hl159_0, hi159_0⟩ := at_L2 HR0.out x10_1 p159 q159
                      obtain rfl : ad158 = ad159 := (by injection e159)
                      replace hx159_0 := (HB.out.cell (World.block_lt_of_cell? w _ hx159_0)).trans hx159_0
                      have HR159_0 := Aside0.mk hi159_0
                      have HC159_0 := Aside0.mk hl159_0
                      clear hi159_0 hl159_0
                      replace p159 := eq_true p159
                      replace q159 := eq_true q159
                      have ea_ := Option.some.inj (hx158_0.symm.trans hx159_0)
                      injection ea_ with ea_ en_ ec_
                      subst ea_
                      subst ec_
                      clear en_
                      have p160 : 0 ≤ (x12_2 : Int) := of_decide_eq_true (by first | (with_reducible assumption) | assumption)
                      have q160 : x12_2 < ((rd_L2 l0 x10_1).length : Int) := of_decide_eq_true (by first | (with_reducible assumption) | assumption)
                      obtain ⟨ad160, e160, hx160_0, hx160_1, hx160_2⟩ := at_T34 HR159_0.out x12_2 p160 q160
                      cases e160
                      replace hx160_0 := (HB.out.cell (World.block_lt_of_cell? w _ hx160_0)).trans hx160_0
                      replace hx160_1 := (HB.out.cell (World.block_lt_of_cell? w _ hx160_1)).trans hx160_1
                      replace hx160_2 := (HB.out.cell (World.block_lt_of_cell? w _ hx160_2)).trans hx160_2
                      replace p160 := eq_true p160
                      replace q160 := eq_true q160
                      go_wp2_with (first | ((with_reducible refine gate_dst (N := 13) rfl ?_); refine box_event ?hg (N := 13) ?hd (cs := #[.int .i64 0, .int .i64 0, .int .i64 0]) (t := 34) ?hr ?_; (case hd => rfl); (case hg => rfl); (case hr => first | (go_simp; done) | (go_simp; rfl)); intro gb161 hg w11 hbox hb; have n0_ := Aside0.mk (Kd.R_below (by (with_reducible repeat (first | apply Kd.R_alloc | apply Kd.R_drewN | apply Kd.R_drew)); exact HO_8.out) hb); have n1_ := Aside0.mk (below_step (by repeat (first | (with_reducible first | exact HB.out | apply below_alloc | apply pw_below_drewN | apply below_drew1) | exact HB.out)) hb); have n2_ := Aside0.mk (hbox); have n3_ := Aside0.mk ((by rw [hg]; exact (below_size (by repeat (first | (with_reducible first | exact HB.out | apply below_alloc | apply pw_below_drewN | apply below_drew1) | exact HB.out))) : w.heap.size ≤ gb161)); have n4_ := Aside0.mk ((by rw [hg]; exact (below_size (by repeat (first | (with_reducible first | exact HB.out | apply below_alloc | apply pw_below_drewN | apply below_drew1) | exact HB.out))) : w.heap.size ≤ gb161)); clear HO_8; clear HB; have HO_8 := n0_; have HB := n1_; have BK161 := n2_; have GW161 := n3_; have GE161 := n4_; clear n0_ n1_ n2_ n3_ n4_; clear hb hbox hg; have hcz12_0 : w11.cell? ⟨gb161, 0, none⟩ = some (.int .i64 0) := (blk_cell BK161.out 0).trans rfl; have hcz12_1 : w11.cell? ⟨gb161, 1, none⟩ = some (.int .i64 0) := (blk_cell BK161.out 1).trans rfl; have hcz12_2 : w11.cell? ⟨gb161, 2, none⟩ = some (.int .i64 0) := (blk_cell BK161.out 2).trans rfl; have hfz12_0 := blk_frozen BK161.out 0; have hfz12_1 := blk_frozen BK161.out 1; have hfz12_2 := blk_frozen BK161.out 2))
                      go_loopg [11] k2 (fun kq v11 w' => ∃ (x11_3 : Int), v11 = .int .i64 x11_3 ∧ Aside0 (purflingref07_Lay.l2 kq l0 l1 x8_2 x9_2 x10_1 x11_3 x12_2 ((rd_T34 (rd_L2 l0 x10_1) x12_2).f0) ((rd_T34 (rd_L2 l0 x10_1) x12_2).f1) ((rd_T34 (rd_L2 l0 x10_1) x12_2).f2) = some (r1, r2, r3)) ∧ Aside0 (kq ≤ k2) ∧ Aside0 (Kd.R k40 40 w' w.heap.size (fun _ => True) u8 x8_2) ∧ Aside0 (w'.heap[gb161]? = some (.cells #[.int .i64 ((rd_T34 (rd_L2 l0 x10_1) x12_2).f0), .int .i64 ((rd_T34 (rd_L2 l0 x10_1) x12_2).f1), .int .i64 ((rd_T34 (rd_L2 l0 x10_1) x12_2).f2)] 34 (0, 0))) ∧ Aside0 (Below w.heap.size w w'))
                      case atStart => exact ⟨(x11_2), (by first | rfl | (simp; done) | (simp [*]; done)), H', ⟨Nat.le_refl _⟩, ⟨by (with_reducible repeat (first | apply Kd.R_alloc | apply Kd.R_drewN | apply Kd.R_drew)); exact Kd.R_mono (Kd.R_far (p := ⟨gb161, 2, none⟩) (Kd.R_far (p := ⟨gb161, 1, none⟩) (Kd.R_far (p := ⟨gb161, 0, none⟩) (Kd.R_types HO_8.out BK161.out (by decide)) (fun _ hk => hk.2) (.int .i64 ((rd_T34 (rd_L2 l0 x10_1) x12_2).f0))) (fun _ hk => hk.2) (.int .i64 ((rd_T34 (rd_L2 l0 x10_1) x12_2).f1))) (fun _ hk => hk.2) (.int .i64 ((rd_T34 (rd_L2 l0 x10_1) x12_2).f2))) (fun _ hk => trivial)⟩, ⟨by (with_reducible repeat (first | refine blk_drewN ?_ _ | refine blk_drew ?_ | refine blk_alloc ?_ _)); refine blk_put (cs := #[.int .i64 ((rd_T34 (rd_L2 l0 x10_1) x12_2).f0), .int .i64 ((rd_T34 (rd_L2 l0 x10_1) x12_2).f1), .int .i64 0]) ?_ 2 _ rfl; (with_reducible repeat (first | refine blk_drewN ?_ _ | refine blk_drew ?_ | refine blk_alloc ?_ _)); refine blk_put (cs := #[.int .i64 ((rd_T34 (rd_L2 l0 x10_1) x12_2).f0), .int .i64 0, .int .i64 0]) ?_ 1 _ rfl; (with_reducible repeat (first | refine blk_drewN ?_ _ | refine blk_drew ?_ | refine blk_alloc ?_ _)); refine blk_put (cs := #[.int .i64 0, .int .i64 0, .int .i64 0]) ?_ 0 _ rfl; (with_reducible repeat (first | refine blk_drewN ?_ _ | refine blk_drew ?_ | refine blk_alloc ?_ _)); exact BK161.out⟩, ⟨by repeat (first | (with_reducible first | exact HB.out | apply below_alloc | apply pw_below_drewN | apply below_drew1 | refine below_set ?_ GE161.out) | exact HB.out)⟩⟩
                      case round =>
                        clear H'
                        try clear c1
                        try clear p1
                        try clear q1
                        try clear hx1
                        try clear c2
                        try clear p2
                        try clear c4
                        try clear c6
                        try clear c6b0
                        try clear c7
                        try clear c7b0
                        try clear c8
                        try clear c8b0
                        try clear c9
                        try clear c9b0
                        try clear c10
                        try clear c10b0
                        try clear hcz12_0
                        try clear hcz12_1
                        try clear hcz12_2
                        try clear hfz12_0
                        try clear hfz12_1
                        try clear hfz12_2
                        try clear hx158_0
                        try clear hx159_0
                        try clear hx160_0
                        try clear hx160_1
                        try clear hx160_2
                        try clear p158
                        try clear p159
                        try clear p160
                        try clear p2
                        try clear q158
                        try clear q159
                        try clear q160
                        obtain ⟨x11_3, rfl, HA, HK3, HO_8, BK161, HB⟩ := hrel
                        cases gk with
                        | zero => exact absurd HA.out (by simp [purflingref07_Lay.l2])
                        | succ k3 =>
                          have H := HA.out
                          clear HA
                          simp only [purflingref07_Lay.l2] at H
                          replace H := Option.bind_eq_some_iff.mp H
                          obtain ⟨t162, A130, H⟩ := H
                          replace H : (if t162 = true then (purflingref07_Lay.l2 k3 l0 l1 x8_2 x9_2 x10_1 (wrap64 (x11_3 + 1)) x12_2 ((rd_T34 (rd_L2 l0 x10_1) x12_2).f0) ((rd_T34 (rd_L2 l0 x10_1) x12_2).f1) ((rd_T34 (rd_L2 l0 x10_1) x12_2).f2)) else (purflingref07_Lay.l3 k3 l0 l1 x8_2 x9_2 x10_1 x11_3 x12_2 1 ((rd_T34 (rd_L2 l0 x10_1) x12_2).f0) ((rd_T34 (rd_L2 l0 x10_1) x12_2).f1) ((rd_T34 (rd_L2 l0 x10_1) x12_2).f2))) = some (r1, r2, r3) := H
                          have A13 := Aside0.mk A130
                          clear A130
                          by_cases c14 : t162 = true
                          · subst c14
                            have H1 : (purflingref07_Lay.l2 k3 l0 l1 x8_2 x9_2 x10_1 (wrap64 (x11_3 + 1)) x12_2 ((rd_T34 (rd_L2 l0 x10_1) x12_2).f0) ((rd_T34 (rd_L2 l0 x10_1) x12_2).f1) ((rd_T34 (rd_L2 l0 x10_1) x12_2).f2)) = some (r1, r2, r3) := by rw [if_pos rfl] at H; exact H
                            clear H
                            have H := H1
                            clear H1
                            have H' := Aside0.mk H
                            clear H
                            obtain ⟨Ao15, co15, eo15⟩ := Kd.R_slice HO_8.out
                            subst eo15
                            go_wp2_with (first | ((with_reducible refine gate_callee (f := 36) rfl ?_); refine goesL_ (some 46) rfl rfl Try.func36 (by kernel_rfl) rfl #[.slice Ao15 x8_2.length co15, .int .i64 x10_1, .int .i64 x11_3] rfl (by (try simp only [List.map_toArray, List.map_cons, List.map_nil]); first | done | rfl | (simp only [List.length_drop, List.length_take]; rfl)) ?_; (with_reducible refine (purflingref07_taken.calls k3 _ _ x8_2 x10_1 x11_3 true _ ?side1 ?side2 A13.out).mono ?_); (case side1 => repeat (first | exact (Kd.R_reads' HO_8.out).2.2 | (with_reducible refine Kd.C_alloc ?_ _) | (with_reducible refine Kd.C_drewN ?_ _) | (with_reducible refine Kd.C_drew ?_))); (case side2 => exact (Kd.R_reads' HO_8.out).2.1); rintro e w16 ⟨rfl, hb⟩; refine ⟨_, rfl, ?_⟩; have n0_ := Aside0.mk (Kd.R_below (by (with_reducible repeat (first | apply Kd.R_alloc | apply Kd.R_drewN | apply Kd.R_drew)); exact HO_8.out) hb); have n1_ := Aside0.mk (blk_below (g := gb161) (o := .cells #[.int .i64 ((rd_T34 (rd_L2 l0 x10_1) x12_2).f0), .int .i64 ((rd_T34 (rd_L2 l0 x10_1) x12_2).f1), .int .i64 ((rd_T34 (rd_L2 l0 x10_1) x12_2).f2)] 34 (0, 0)) (by (with_reducible repeat (first | refine blk_drewN ?_ _ | refine blk_drew ?_ | refine blk_alloc ?_ _)); exact BK161.out) hb); have n2_ := Aside0.mk (below_step (by repeat (first | (with_reducible first | exact HB.out | apply below_alloc | apply pw_below_drewN | apply below_drew1 | refine below_set ?_ GE161.out) | exact HB.out)) hb); clear HO_8; clear BK161; clear HB; have HO_8 := n0_; have BK161 := n1_; have HB := n2_; clear n0_ n1_ n2_; (try clear hb); (try clear hb2); (try clear hk); (try clear hi)))
                            go_roundg k3
                            case measure => have := HK1.out; have := HK2.out; have := HK3.out; omega
                            case rel => exact ⟨(wrap64 (x11_3 + 1)), (by first | rfl | (simp; done) | (simp [*]; done)), H', ⟨by have := HK1.out; have := HK2.out; have := HK3.out; omega⟩, ⟨by (with_reducible repeat (first | apply Kd.R_alloc | apply Kd.R_drewN | apply Kd.R_drew)); exact HO_8.out⟩, ⟨by (with_reducible repeat (first | refine blk_drewN ?_ _ | refine blk_drew ?_ | refine blk_alloc ?_ _)); exact BK161.out⟩, ⟨by repeat (first | (with_reducible first | exact HB.out | apply below_alloc | apply pw_below_drewN | apply below_drew1 | refine below_set ?_ GE161.out) | exact HB.out)⟩⟩
                          · replace c14 := Bool.eq_false_iff.mpr c14
                            subst c14
                            have H1 : (purflingref07_Lay.l3 k3 l0 l1 x8_2 x9_2 x10_1 x11_3 x12_2 1 ((rd_T34 (rd_L2 l0 x10_1) x12_2).f0) ((rd_T34 (rd_L2 l0 x10_1) x12_2).f1) ((rd_T34 (rd_L2 l0 x10_1) x12_2).f2)) = some (r1, r2, r3) := by rw [if_neg (show ¬ (false = true) by decide)] at H; exact H
                            clear H
                            have H := H1
                            clear H1
                            have HC17 := Aside0.mk H
                            clear H
                            obtain ⟨Ao18, co18, eo18⟩ := Kd.R_slice HO_8.out
                            subst eo18
                            go_upto_block 6 with (first | ((with_reducible refine gate_callee (f := 36) rfl ?_); refine goesL_ (some 46) rfl rfl Try.func36 (by kernel_rfl) rfl #[.slice Ao18 x8_2.length co18, .int .i64 x10_1, .int .i64 x11_3] rfl (by (try simp only [List.map_toArray, List.map_cons, List.map_nil]); first | done | rfl | (simp only [List.length_drop, List.length_take]; rfl)) ?_; (with_reducible refine (purflingref07_taken.calls k3 _ _ x8_2 x10_1 x11_3 false _ ?side1 ?side2 A13.out).mono ?_); (case side1 => repeat (first | exact (Kd.R_reads' HO_8.out).2.2 | (with_reducible refine Kd.C_alloc ?_ _) | (with_reducible refine Kd.C_drewN ?_ _) | (with_reducible refine Kd.C_drew ?_))); (case side2 => exact (Kd.R_reads' HO_8.out).2.1); rintro e w19 ⟨rfl, hb⟩; refine ⟨_, rfl, ?_⟩; have n0_ := Aside0.mk (Kd.R_below (by (with_reducible repeat (first | apply Kd.R_alloc | apply Kd.R_drewN | apply Kd.R_drew)); exact HO_8.out) hb); have n1_ := Aside0.mk (blk_below (g := gb161) (o := .cells #[.int .i64 ((rd_T34 (rd_L2 l0 x10_1) x12_2).f0), .int .i64 ((rd_T34 (rd_L2 l0 x10_1) x12_2).f1), .int .i64 ((rd_T34 (rd_L2 l0 x10_1) x12_2).f2)] 34 (0, 0)) (by (with_reducible repeat (first | refine blk_drewN ?_ _ | refine blk_drew ?_ | refine blk_alloc ?_ _)); exact BK161.out) hb); have n2_ := Aside0.mk (below_step (by repeat (first | (with_reducible first | exact HB.out | apply below_alloc | apply pw_below_drewN | apply below_drew1 | refine below_set ?_ GE161.out) | exact HB.out)) hb); clear HO_8; clear BK161; clear HB; have HO_8 := n0_; have BK161 := n1_; have HB := n2_; clear n0_ n1_ n2_; (try clear hb); (try clear hb2); (try clear hk); (try clear hi)))
                            (try simp only [Act.put, List.setIfInBounds_toArray, List.set_cons_zero, List.set_cons_succ])
                            go_cut [14] (fun v14 wc => ∃ (kq : Nat) (x14_16 : Int), v14 = .int .i64 x14_16 ∧ Aside0 (purflingref07_Lay.j4 kq l0 l1 x8_2 x9_2 x10_1 x11_3 x12_2 x14_16 ((rd_T34 (rd_L2 l0 x10_1) x12_2).f0) ((rd_T34 (rd_L2 l0 x10_1) x12_2).f1) ((rd_T34 (rd_L2 l0 x10_1) x12_2).f2) = some (r1, r2, r3)) ∧ Aside0 (kq ≤ k3) ∧ Aside0 (Kd.R k40 40 wc w.heap.size (fun _ => True) (.slice Ao18 x8_2.length co18) x8_2) ∧ Aside0 (wc.heap[gb161]? = some (.cells #[.int .i64 ((rd_T34 (rd_L2 l0 x10_1) x12_2).f0), .int .i64 ((rd_T34 (rd_L2 l0 x10_1) x12_2).f1), .int .i64 ((rd_T34 (rd_L2 l0 x10_1) x12_2).f2)] 34 (0, 0))) ∧ Aside0 (Below w.heap.size w wc))
                            case first =>
                              have H := HC17.out
                              clear HC17
                              have H' := Aside0.mk H
                              clear H
                              go_wp2
                              go_loopg [14] k3 (fun kq v14 w' => ∃ (x14_4 : Int), v14 = .int .i64 x14_4 ∧ Aside0 (purflingref07_Lay.l3 kq l0 l1 x8_2 x9_2 x10_1 x11_3 x12_2 x14_4 ((rd_T34 (rd_L2 l0 x10_1) x12_2).f0) ((rd_T34 (rd_L2 l0 x10_1) x12_2).f1) ((rd_T34 (rd_L2 l0 x10_1) x12_2).f2) = some (r1, r2, r3)) ∧ Aside0 (kq ≤ k3) ∧ Aside0 (Kd.R k40 40 w' w.heap.size (fun _ => True) (.slice Ao18 x8_2.length co18) x8_2) ∧ Aside0 (w'.heap[gb161]? = some (.cells #[.int .i64 ((rd_T34 (rd_L2 l0 x10_1) x12_2).f0), .int .i64 ((rd_T34 (rd_L2 l0 x10_1) x12_2).f1), .int .i64 ((rd_T34 (rd_L2 l0 x10_1) x12_2).f2)] 34 (0, 0))) ∧ Aside0 (Below w.heap.size w w'))
                              case atStart => exact ⟨(1), (by first | rfl | (simp; done) | (simp [*]; done)), H', ⟨Nat.le_refl _⟩, ⟨by (with_reducible repeat (first | apply Kd.R_alloc | apply Kd.R_drewN | apply Kd.R_drew)); exact HO_8.out⟩, ⟨by (with_reducible repeat (first | refine blk_drewN ?_ _ | refine blk_drew ?_ | refine blk_alloc ?_ _)); exact BK161.out⟩, ⟨by repeat (first | (with_reducible first | exact HB.out | apply below_alloc | apply pw_below_drewN | apply below_drew1 | refine below_set ?_ GE161.out) | exact HB.out)⟩⟩
                              case round =>
                                clear H'
                                try clear c1
                                try clear p1
                                try clear q1
                                try clear hx1
                                try clear c2
                                try clear p2
                                try clear c3
                                try clear c4
                                try clear c6
                                try clear c6b0
                                try clear p6
                                try clear c7
                                try clear c7b0
                                try clear c8
                                try clear c8b0
                                try clear c9
                                try clear c9b0
                                try clear c10
                                try clear c10b0
                                try clear c14
                                try clear c15
                                try clear p15
                                try clear q15
                                try clear hx15
                                try clear p16
                                try clear q16
                                try clear hx16
                                try clear c18
                                try clear hcz12_0
                                try clear hcz12_1
                                try clear hcz12_2
                                try clear hfz12_0
                                try clear hfz12_1
                                try clear hfz12_2
                                try clear hx158_0
                                try clear hx159_0
                                try clear hx160_0
                                try clear hx160_1
                                try clear hx160_2
                                try clear p1
                                try clear p158
                                try clear p159
                                try clear p160
                                try clear p2
                                try clear q1
                                try clear q158
                                try clear q159
                                try clear q160
                                obtain ⟨x14_4, rfl, HA, HK4, HO_8, BK161, HB⟩ := hrel
                                cases gk with
                                | zero => exact absurd HA.out (by simp [purflingref07_Lay.l3])
                                | succ k4 =>
                                  have H := HA.out
                                  clear HA
                                  simp only [purflingref07_Lay.l3] at H
                                  by_cases c20 : x14_4 < ((rd_T34 (rd_L2 l0 x10_1) x12_2).f1)
                                  · rw [if_pos c20] at H
                                    have c20b0 : decide (x14_4 < ((rd_T34 (rd_L2 l0 x10_1) x12_2).f1)) = true := decide_eq_true c20
                                    clear c20
                                    (first | rw [c20b0] | (simp only [i64_w, i32_w]; rw [c20b0]) | skip)
                                    replace H := Option.bind_eq_some_iff.mp H
                                    obtain ⟨t163, A210, H⟩ := H
                                    replace H : (if t163 = true then (purflingref07_Lay.j4 k4 l0 l1 x8_2 x9_2 x10_1 x11_3 x12_2 x14_4 ((rd_T34 (rd_L2 l0 x10_1) x12_2).f0) ((rd_T34 (rd_L2 l0 x10_1) x12_2).f1) ((rd_T34 (rd_L2 l0 x10_1) x12_2).f2)) else (purflingref07_Lay.l3 k4 l0 l1 x8_2 x9_2 x10_1 x11_3 x12_2 (wrap64 (x14_4 + 1)) ((rd_T34 (rd_L2 l0 x10_1) x12_2).f0) ((rd_T34 (rd_L2 l0 x10_1) x12_2).f1) ((rd_T34 (rd_L2 l0 x10_1) x12_2).f2))) = some (r1, r2, r3) := H
                                    have A21 := Aside0.mk A210
                                    clear A210
                                    by_cases c22 : t163 = true
                                    · subst c22
                                      have H1 : (purflingref07_Lay.j4 k4 l0 l1 x8_2 x9_2 x10_1 x11_3 x12_2 x14_4 ((rd_T34 (rd_L2 l0 x10_1) x12_2).f0) ((rd_T34 (rd_L2 l0 x10_1) x12_2).f1) ((rd_T34 (rd_L2 l0 x10_1) x12_2).f2)) = some (r1, r2, r3) := by rw [if_pos rfl] at H; exact H
                                      clear H
                                      have H := H1
                                      clear H1
                                      have H' := Aside0.mk H
                                      clear H
                                      have hcz23_0 : wr.cell? ⟨gb161, 0, none⟩ = some (.int .i64 ((rd_T34 (rd_L2 l0 x10_1) x12_2).f0)) := (blk_cell BK161.out 0).trans rfl
                                      have hcz23_1 : wr.cell? ⟨gb161, 1, none⟩ = some (.int .i64 ((rd_T34 (rd_L2 l0 x10_1) x12_2).f1)) := (blk_cell BK161.out 1).trans rfl
                                      have hcz23_2 : wr.cell? ⟨gb161, 2, none⟩ = some (.int .i64 ((rd_T34 (rd_L2 l0 x10_1) x12_2).f2)) := (blk_cell BK161.out 2).trans rfl
                                      have hfz23_0 := blk_frozen BK161.out 0
                                      have hfz23_1 := blk_frozen BK161.out 1
                                      have hfz23_2 := blk_frozen BK161.out 2
                                      go_wp2_with (first | (go_at_call 36; (with_reducible refine (purflingref07_taken.calls k4 _ _ x8_2 x10_1 (wrap64 (x11_3 + x14_4)) true _ ?side1 ?side2 A21.out).mono ?_); (case side1 => repeat (first | exact (Kd.R_reads' HO_8.out).2.2 | (with_reducible refine Kd.C_alloc ?_ _) | (with_reducible refine Kd.C_drewN ?_ _) | (with_reducible refine Kd.C_drew ?_))); (case side2 => exact (Kd.R_reads' HO_8.out).2.1); rintro e w24 ⟨rfl, hb⟩; have n0_ := Aside0.mk (Kd.R_below (by (with_reducible repeat (first | apply Kd.R_alloc | apply Kd.R_drewN | apply Kd.R_drew)); exact HO_8.out) hb); have n1_ := Aside0.mk (blk_below (g := gb161) (o := .cells #[.int .i64 ((rd_T34 (rd_L2 l0 x10_1) x12_2).f0), .int .i64 ((rd_T34 (rd_L2 l0 x10_1) x12_2).f1), .int .i64 ((rd_T34 (rd_L2 l0 x10_1) x12_2).f2)] 34 (0, 0)) (by (with_reducible repeat (first | refine blk_drewN ?_ _ | refine blk_drew ?_ | refine blk_alloc ?_ _)); exact BK161.out) hb); have n2_ := Aside0.mk (below_step (by repeat (first | (with_reducible first | exact HB.out | apply below_alloc | apply pw_below_drewN | apply below_drew1 | refine below_set ?_ GE161.out) | exact HB.out)) hb); clear HO_8; clear BK161; clear HB; have HO_8 := n0_; have BK161 := n1_; have HB := n2_; clear n0_ n1_ n2_; (try clear hb); (try clear hb2); (try clear hk); (try clear hi)))
                                      go_meet
                                      case rel => exact ⟨_, (x14_4), (by first | rfl | (simp; done) | (simp [*]; done)), H', ⟨by have := HK1.out; have := HK2.out; have := HK3.out; have := HK4.out; first | omega | exact Nat.le_refl _⟩, ⟨by (with_reducible repeat (first | apply Kd.R_alloc | apply Kd.R_drewN | apply Kd.R_drew)); exact HO_8.out⟩, ⟨by (with_reducible repeat (first | refine blk_drewN ?_ _ | refine blk_drew ?_ | refine blk_alloc ?_ _)); exact BK161.out⟩, ⟨by repeat (first | (with_reducible first | exact HB.out | apply below_alloc | apply pw_below_drewN | apply below_drew1 | refine below_set ?_ GE161.out) | exact HB.out)⟩⟩
                                    · replace c22 := Bool.eq_false_iff.mpr c22
                                      subst c22
                                      have H1 : (purflingref07_Lay.l3 k4 l0 l1 x8_2 x9_2 x10_1 x11_3 x12_2 (wrap64 (x14_4 + 1)) ((rd_T34 (rd_L2 l0 x10_1) x12_2).f0) ((rd_T34 (rd_L2 l0 x10_1) x12_2).f1) ((rd_T34 (rd_L2 l0 x10_1) x12_2).f2)) = some (r1, r2, r3) := by rw [if_neg (show ¬ (false = true) by decide)] at H; exact H
                                      clear H
                                      have H := H1
                                      clear H1
                                      have H' := Aside0.mk H
                                      clear H
                                      have hcz25_0 : wr.cell? ⟨gb161, 0, none⟩ = some (.int .i64 ((rd_T34 (rd_L2 l0 x10_1) x12_2).f0)) := (blk_cell BK161.out 0).trans rfl
                                      have hcz25_1 : wr.cell? ⟨gb161, 1, none⟩ = some (.int .i64 ((rd_T34 (rd_L2 l0 x10_1) x12_2).f1)) := (blk_cell BK161.out 1).trans rfl
                                      have hcz25_2 : wr.cell? ⟨gb161, 2, none⟩ = some (.int .i64 ((rd_T34 (rd_L2 l0 x10_1) x12_2).f2)) := (blk_cell BK161.out 2).trans rfl
                                      have hfz25_0 := blk_frozen BK161.out 0
                                      have hfz25_1 := blk_frozen BK161.out 1
                                      have hfz25_2 := blk_frozen BK161.out 2
                                      go_wp2_with (first | (go_at_call 36; (with_reducible refine (purflingref07_taken.calls k4 _ _ x8_2 x10_1 (wrap64 (x11_3 + x14_4)) false _ ?side1 ?side2 A21.out).mono ?_); (case side1 => repeat (first | exact (Kd.R_reads' HO_8.out).2.2 | (with_reducible refine Kd.C_alloc ?_ _) | (with_reducible refine Kd.C_drewN ?_ _) | (with_reducible refine Kd.C_drew ?_))); (case side2 => exact (Kd.R_reads' HO_8.out).2.1); rintro e w26 ⟨rfl, hb⟩; have n0_ := Aside0.mk (Kd.R_below (by (with_reducible repeat (first | apply Kd.R_alloc | apply Kd.R_drewN | apply Kd.R_drew)); exact HO_8.out) hb); have n1_ := Aside0.mk (blk_below (g := gb161) (o := .cells #[.int .i64 ((rd_T34 (rd_L2 l0 x10_1) x12_2).f0), .int .i64 ((rd_T34 (rd_L2 l0 x10_1) x12_2).f1), .int .i64 ((rd_T34 (rd_L2 l0 x10_1) x12_2).f2)] 34 (0, 0)) (by (with_reducible repeat (first | refine blk_drewN ?_ _ | refine blk_drew ?_ | refine blk_alloc ?_ _)); exact BK161.out) hb); have n2_ := Aside0.mk (below_step (by repeat (first | (with_reducible first | exact HB.out | apply below_alloc | apply pw_below_drewN | apply below_drew1 | refine below_set ?_ GE161.out) | exact HB.out)) hb); clear HO_8; clear BK161; clear HB; have HO_8 := n0_; have BK161 := n1_; have HB := n2_; clear n0_ n1_ n2_; (try clear hb); (try clear hb2); (try clear hk); (try clear hi)))
                                      go_roundg k4
                                      case measure => have := HK1.out; have := HK2.out; have := HK3.out; have := HK4.out; omega
                                      case rel => exact ⟨(wrap64 (x14_4 + 1)), (by first | rfl | (simp; done) | (simp [*]; done)), H', ⟨by have := HK1.out; have := HK2.out; have := HK3.out; have := HK4.out; omega⟩, ⟨by (with_reducible repeat (first | apply Kd.R_alloc | apply Kd.R_drewN | apply Kd.R_drew)); exact HO_8.out⟩, ⟨by (with_reducible repeat (first | refine blk_drewN ?_ _ | refine blk_drew ?_ | refine blk_alloc ?_ _)); exact BK161.out⟩, ⟨by repeat (first | (with_reducible first | exact HB.out | apply below_alloc | apply pw_below_drewN | apply below_drew1 | refine below_set ?_ GE161.out) | exact HB.out)⟩⟩
                                  · rw [if_neg c20] at H
                                    have c20b0 : decide (x14_4 < ((rd_T34 (rd_L2 l0 x10_1) x12_2).f1)) = false := decide_eq_false c20
                                    clear c20
                                    (first | rw [c20b0] | (simp only [i64_w, i32_w]; rw [c20b0]) | skip)
                                    have H' := Aside0.mk H
                                    clear H
                                    have hcz27_0 : wr.cell? ⟨gb161, 0, none⟩ = some (.int .i64 ((rd_T34 (rd_L2 l0 x10_1) x12_2).f0)) := (blk_cell BK161.out 0).trans rfl
                                    have hcz27_1 : wr.cell? ⟨gb161, 1, none⟩ = some (.int .i64 ((rd_T34 (rd_L2 l0 x10_1) x12_2).f1)) := (blk_cell BK161.out 1).trans rfl
                                    have hcz27_2 : wr.cell? ⟨gb161, 2, none⟩ = some (.int .i64 ((rd_T34 (rd_L2 l0 x10_1) x12_2).f2)) := (blk_cell BK161.out 2).trans rfl
                                    have hfz27_0 := blk_frozen BK161.out 0
                                    have hfz27_1 := blk_frozen BK161.out 1
                                    have hfz27_2 := blk_frozen BK161.out 2
                                    go_wp2
                                    go_meet
                                    case rel => exact ⟨_, (x14_4), (by first | rfl | (simp; done) | (simp [*]; done)), H', ⟨by have := HK1.out; have := HK2.out; have := HK3.out; have := HK4.out; first | omega | exact Nat.le_refl _⟩, ⟨by (with_reducible repeat (first | apply Kd.R_alloc | apply Kd.R_drewN | apply Kd.R_drew)); exact HO_8.out⟩, ⟨by (with_reducible repeat (first | refine blk_drewN ?_ _ | refine blk_drew ?_ | refine blk_alloc ?_ _)); exact BK161.out⟩, ⟨by repeat (first | (with_reducible first | exact HB.out | apply below_alloc | apply pw_below_drewN | apply below_drew1 | refine below_set ?_ GE161.out) | exact HB.out)⟩⟩
                            case rest =>
                              clear HC17
                              try clear c1
                              try clear p1
                              try clear q1
                              try clear hx1
                              try clear c2
                              try clear p2
                              try clear c3
                              try clear c4
                              try clear c6
                              try clear c6b0
                              try clear p6
                              try clear c7
                              try clear c7b0
                              try clear c8
                              try clear c8b0
                              try clear c9
                              try clear c9b0
                              try clear c10
                              try clear c10b0
                              try clear c14
                              try clear c15
                              try clear p15
                              try clear q15
                              try clear hx15
                              try clear p16
                              try clear q16
                              try clear hx16
                              try clear c18
                              try clear c20
                              try clear c20b0
                              try clear c22
                              try clear hcz12_0
                              try clear hcz12_1
                              try clear hcz12_2
                              try clear hcz23_0
                              try clear hcz23_1
                              try clear hcz23_2
                              try clear hcz25_0
                              try clear hcz25_1
                              try clear hcz25_2
                              try clear hcz27_0
                              try clear hcz27_1
                              try clear hcz27_2
                              try clear hfz12_0
                              try clear hfz12_1
                              try clear hfz12_2
                              try clear hfz23_0
                              try clear hfz23_1
                              try clear hfz23_2
                              try clear hfz25_0
                              try clear hfz25_1
                              try clear hfz25_2
                              try clear hfz27_0
                              try clear hfz27_1
                              try clear hfz27_2
                              try clear hx158_0
                              try clear hx159_0
                              try clear hx160_0
                              try clear hx160_1
                              try clear hx160_2
                              try clear p1
                              try clear p15
                              try clear p158
                              try clear p159
                              try clear p16
                              try clear p160
                              try clear p2
                              try clear p6
                              try clear q1
                              try clear q15
                              try clear q158
                              try clear q159
                              try clear q16
                              try clear q160
                              obtain ⟨kq, x14_16, rfl, HA, HJ16, HO_8, BK161, HB⟩ := hcut
                              cases kq with
                              | zero => exact absurd HA.out (by simp [purflingref07_Lay.j4])
                              | succ kj16 =>
                                have H := HA.out
                                clear HA
                                simp only [purflingref07_Lay.j4] at H
                                have HC28 := Aside0.mk H
                                clear H
                                have hcz29_0 : wc.cell? ⟨gb161, 0, none⟩ = some (.int .i64 ((rd_T34 (rd_L2 l0 x10_1) x12_2).f0)) := (blk_cell BK161.out 0).trans rfl
                                have hcz29_1 : wc.cell? ⟨gb161, 1, none⟩ = some (.int .i64 ((rd_T34 (rd_L2 l0 x10_1) x12_2).f1)) := (blk_cell BK161.out 1).trans rfl
                                have hcz29_2 : wc.cell? ⟨gb161, 2, none⟩ = some (.int .i64 ((rd_T34 (rd_L2 l0 x10_1) x12_2).f2)) := (blk_cell BK161.out 2).trans rfl
                                have hfz29_0 := blk_frozen BK161.out 0
                                have hfz29_1 := blk_frozen BK161.out 1
                                have hfz29_2 := blk_frozen BK161.out 2
                                go_upto_region 20 with (fail)
                                go_cut [77] (fun v77 wc => ∃ (kq : Nat) (x77_27 : Bool), v77 = .bool x77_27 ∧ Aside0 (purflingref07_Lay.j5 kq l0 l1 x8_2 x9_2 x10_1 x11_3 x12_2 x14_16 ((rd_T34 (rd_L2 l0 x10_1) x12_2).f2) x77_27 ((rd_T34 (rd_L2 l0 x10_1) x12_2).f0) ((rd_T34 (rd_L2 l0 x10_1) x12_2).f1) ((rd_T34 (rd_L2 l0 x10_1) x12_2).f2) = some (r1, r2, r3)) ∧ Aside0 (kq ≤ kj16) ∧ Aside0 (Kd.R k40 40 wc w.heap.size (fun _ => True) (.slice Ao18 x8_2.length co18) x8_2) ∧ Aside0 (wc.heap[gb161]? = some (.cells #[.int .i64 ((rd_T34 (rd_L2 l0 x10_1) x12_2).f0), .int .i64 ((rd_T34 (rd_L2 l0 x10_1) x12_2).f1), .int .i64 ((rd_T34 (rd_L2 l0 x10_1) x12_2).f2)] 34 (0, 0))) ∧ Aside0 (Below w.heap.size w wc))
                                case first =>
                                  have H := HC28.out
                                  clear HC28
                                  by_cases c30 : ((rd_T34 (rd_L2 l0 x10_1) x12_2).f2) = 0
                                  · rw [if_pos c30] at H
                                    have c30b0 : (((rd_T34 (rd_L2 l0 x10_1) x12_2).f2) == 0) = true := beq_iff_eq.mpr c30
                                    have c30b1 : (((rd_T34 (rd_L2 l0 x10_1) x12_2).f2) != 0) = false := bne_eq_false_iff_eq.mpr c30
                                    clear c30
                                    (first | rw [c30b0] | (simp only [i64_w, i32_w]; rw [c30b0]) | skip)
                                    have H' := Aside0.mk H
                                    clear H
                                    go_wp2
                                    go_meet
                                    case rel => exact ⟨_, (true), (by first | rfl | (simp; done) | (simp [*]; done)), H', ⟨by have := HK1.out; have := HK2.out; have := HK3.out; have := HJ16.out; first | omega | exact Nat.le_refl _⟩, ⟨by (with_reducible repeat (first | apply Kd.R_alloc | apply Kd.R_drewN | apply Kd.R_drew)); exact HO_8.out⟩, ⟨by (with_reducible repeat (first | refine blk_drewN ?_ _ | refine blk_drew ?_ | refine blk_alloc ?_ _)); exact BK161.out⟩, ⟨by repeat (first | (with_reducible first | exact HB.out | apply below_alloc | apply pw_below_drewN | apply below_drew1 | refine below_set ?_ GE161.out) | exact HB.out)⟩⟩
                                  · rw [if_neg c30] at H
                                    have c30b0 : (((rd_T34 (rd_L2 l0 x10_1) x12_2).f2) == 0) = false := beq_eq_false_iff_ne.mpr c30
                                    have c30b1 : (((rd_T34 (rd_L2 l0 x10_1) x12_2).f2) != 0) = true := bne_iff_ne.mpr c30
                                    (first | rw [c30b0] | (simp only [i64_w, i32_w]; rw [c30b0]) | skip)
                                    by_cases c31 : 0 ≤ x10_1
                                    · rw [if_pos c31] at H
                                      have c31b0 : decide (0 ≤ x10_1) = true := decide_eq_true c31
                                      clear c31
                                      by_cases c32 : x10_1 < (l1.length : Int)
                                      · rw [if_pos c32] at H
                                        have c32b0 : decide (x10_1 < (l1.length : Int)) = true := decide_eq_true c32
                                        clear c32
                                        have H' := Aside0.mk H
                                        clear H
                                        have p164 : 0 ≤ (x10_1 : Int) := of_decide_eq_true (by first | (with_reducible assumption) | assumption)
                                        have q164 : x10_1 < (l1.length : Int) := of_decide_eq_true (by first | (with_reducible assumption) | assumption)
                                        obtain ⟨ad164, e164, hx164_0⟩ := Kd.at_int HR1.out x10_1 p164 q164
                                        cases e164
                                        replace hx164_0 := (HB.out.cell (World.block_lt_of_cell? w _ hx164_0)).trans hx164_0
                                        replace p164 := eq_true p164
                                        replace q164 := eq_true q164
                                        go_wp2
                                        go_meet
                                        case rel => exact ⟨_, (decide (((rd_T34 (rd_L2 l0 x10_1) x12_2).f2) > (wrap64 ((rd l1 x10_1) - x10_1)))), (by first | rfl | (simp; done) | (simp [*]; done)), H', ⟨by have := HK1.out; have := HK2.out; have := HK3.out; have := HJ16.out; first | omega | exact Nat.le_refl _⟩, ⟨by (with_reducible repeat (first | apply Kd.R_alloc | apply Kd.R_drewN | apply Kd.R_drew)); exact HO_8.out⟩, ⟨by (with_reducible repeat (first | refine blk_drewN ?_ _ | refine blk_drew ?_ | refine blk_alloc ?_ _)); exact BK161.out⟩, ⟨by repeat (first | (with_reducible first | exact HB.out | apply below_alloc | apply pw_below_drewN | apply below_drew1 | refine below_set ?_ GE161.out) | exact HB.out)⟩⟩
                                      · rw [if_neg c32] at H
                                        exact absurd H (by simp)
                                    · rw [if_neg c31] at H
                                      exact absurd H (by simp)
                                case rest =>
                                  clear HC28
                                  try clear c1
                                  try clear p1
                                  try clear q1
                                  try clear hx1
                                  try clear c2
                                  try clear p2
                                  try clear c3
                                  try clear c4
                                  try clear c6
                                  try clear c6b0
                                  try clear p6
                                  try clear c7
                                  try clear c7b0
                                  try clear c8
                                  try clear c8b0
                                  try clear c9
                                  try clear c9b0
                                  try clear c10
                                  try clear c10b0
                                  try clear c14
                                  try clear c15
                                  try clear p15
                                  try clear q15
                                  try clear hx15
                                  try clear p16
                                  try clear q16
                                  try clear hx16
                                  try clear c18
                                  try clear c20
                                  try clear c20b0
                                  try clear c22
                                  try clear c30
                                  try clear c30b0
                                  try clear c30b1
                                  try clear c31
                                  try clear c31b0
                                  try clear c32
                                  try clear c32b0
                                  try clear hcz12_0
                                  try clear hcz12_1
                                  try clear hcz12_2
                                  try clear hcz23_0
                                  try clear hcz23_1
                                  try clear hcz23_2
                                  try clear hcz25_0
                                  try clear hcz25_1
                                  try clear hcz25_2
                                  try clear hcz27_0
                                  try clear hcz27_1
                                  try clear hcz27_2
                                  try clear hcz29_0
                                  try clear hcz29_1
                                  try clear hcz29_2
                                  try clear hfz12_0
                                  try clear hfz12_1
                                  try clear hfz12_2
                                  try clear hfz23_0
                                  try clear hfz23_1
                                  try clear hfz23_2
                                  try clear hfz25_0
                                  try clear hfz25_1
                                  try clear hfz25_2
                                  try clear hfz27_0
                                  try clear hfz27_1
                                  try clear hfz27_2
                                  try clear hfz29_0
                                  try clear hfz29_1
                                  try clear hfz29_2
                                  try clear hx158_0
                                  try clear hx159_0
                                  try clear hx160_0
                                  try clear hx160_1
                                  try clear hx160_2
                                  try clear hx164_0
                                  try clear p1
                                  try clear p15
                                  try clear p158
                                  try clear p159
                                  try clear p16
                                  try clear p160
                                  try clear p164
                                  try clear p2
                                  try clear p6
                                  try clear q1
                                  try clear q15
                                  try clear q158
                                  try clear q159
                                  try clear q16
                                  try clear q160
                                  try clear q164
                                  obtain ⟨kq, x77_27, rfl, HA, HJ27, HO_8, BK161, HB⟩ := hcut
                                  cases kq with
                                  | zero => exact absurd HA.out (by simp [purflingref07_Lay.j5])
                                  | succ kj27 =>
                                    have H := HA.out
                                    clear HA
                                    simp only [purflingref07_Lay.j5] at H
                                    by_cases c33 : x77_27 = true
                                    · subst c33
                                      have H1 : (if 0 ≤ x10_1 then (if x10_1 < (l1.length : Int) then (if x8_2.length < 3518437208883 then (if (mx x9_2 (wrap64 (x11_3 + x14_16))) > 10000 then (some (([] : List (S40)), 0, 43)) else (purflingref07_Lay.l1 kj27 l0 l1 (x8_2 ++ [(⟨((rd_T34 (rd_L2 l0 x10_1) x12_2).f0), x10_1, x11_3, wrap64 ((rd l1 x10_1) - x10_1), x14_16⟩ : S40)]) (mx x9_2 (wrap64 (x11_3 + x14_16))) x10_1 (wrap64 (x11_3 + x14_16)) (wrap64 (x12_2 + 1)))) else (none)) else (none)) else (none)) = some (r1, r2, r3) := by rw [if_pos rfl] at H; exact H
                                      clear H
                                      have H := H1
                                      clear H1
                                      by_cases c34 : 0 ≤ x10_1
                                      · rw [if_pos c34] at H
                                        have c34b0 : decide (0 ≤ x10_1) = true := decide_eq_true c34
                                        clear c34
                                        by_cases c35 : x10_1 < (l1.length : Int)
                                        · rw [if_pos c35] at H
                                          have c35b0 : decide (x10_1 < (l1.length : Int)) = true := decide_eq_true c35
                                          clear c35
                                          by_cases c36 : x8_2.length < 3518437208883
                                          · rw [if_pos c36] at H
                                            have LMc36 := Aside0.mk c36
                                            clear c36
                                            obtain ⟨y166, hy166⟩ : ∃ y_ : List (S40), y_ = (x8_2 ++ [(⟨((rd_T34 (rd_L2 l0 x10_1) x12_2).f0), x10_1, x11_3, wrap64 ((rd l1 x10_1) - x10_1), x14_16⟩ : S40)]) := ⟨_, rfl⟩
                                            replace H : (if (mx x9_2 (wrap64 (x11_3 + x14_16))) > 10000 then (some (([] : List (S40)), 0, 43)) else (purflingref07_Lay.l1 kj27 l0 l1 y166 (mx x9_2 (wrap64 (x11_3 + x14_16))) x10_1 (wrap64 (x11_3 + x14_16)) (wrap64 (x12_2 + 1)))) = some (r1, r2, r3) := by first | (rw [hy166]; with_reducible exact H) | (have H2_ := (Option.bind_some _ _).symm.trans H; rw [hy166]; with_reducible exact H2_) | (have H2_ := (Option.bind_some _ _).symm.trans H; with_reducible exact H2_) | with_reducible exact H | (rw [hy166]; exact H) | exact H
                                            have Ny166 := Aside0.mk hy166
                                            clear hy166
                                            obtain ⟨ji37, hji37⟩ : ∃ j_ : Int, (mx x9_2 (wrap64 (x11_3 + x14_16))) = j_ := ⟨_, rfl⟩
                                            replace H : (if (ji37) > 10000 then (some (([] : List (S40)), 0, 43)) else (purflingref07_Lay.l1 kj27 l0 l1 y166 ji37 x10_1 (wrap64 (x11_3 + x14_16)) (wrap64 (x12_2 + 1)))) = some (r1, r2, r3) := by first | (rw [hji37] at H; exact H) | (simp only [hji37] at H ⊢; exact H)
                                            have hji37_ : (if x9_2 < (wrap64 (x11_3 + x14_16)) then (wrap64 (x11_3 + x14_16)) else x9_2) = ji37 := hji37
                                            by_cases c38 : (ji37) > 10000
                                            · rw [if_pos c38] at H
                                              have c38b0 : decide (10000 < (ji37)) = true := decide_eq_true c38
                                              clear c38
                                              simp only [Option.some.injEq, Prod.mk.injEq] at H
                                              obtain ⟨rfl, rfl, rfl⟩ := H
                                              have p165 : 0 ≤ (x10_1 : Int) := of_decide_eq_true (by first | (with_reducible assumption) | assumption)
                                              have q165 : x10_1 < (l1.length : Int) := of_decide_eq_true (by first | (with_reducible assumption) | assumption)
                                              obtain ⟨ad165, e165, hx165_0⟩ := Kd.at_int HR1.out x10_1 p165 q165
                                              cases e165
                                              replace hx165_0 := (HB.out.cell (World.block_lt_of_cell? w _ hx165_0)).trans hx165_0
                                              replace p165 := eq_true p165
                                              replace q165 := eq_true q165
                                              have hcz39_0 : wc.cell? ⟨gb161, 0, none⟩ = some (.int .i64 ((rd_T34 (rd_L2 l0 x10_1) x12_2).f0)) := (blk_cell BK161.out 0).trans rfl
                                              have hcz39_1 : wc.cell? ⟨gb161, 1, none⟩ = some (.int .i64 ((rd_T34 (rd_L2 l0 x10_1) x12_2).f1)) := (blk_cell BK161.out 1).trans rfl
                                              have hcz39_2 : wc.cell? ⟨gb161, 2, none⟩ = some (.int .i64 ((rd_T34 (rd_L2 l0 x10_1) x12_2).f2)) := (blk_cell BK161.out 2).trans rfl
                                              have hfz39_0 := blk_frozen BK161.out 0
                                              have hfz39_1 := blk_frozen BK161.out 1
                                              have hfz39_2 := blk_frozen BK161.out 2
                                              go_wp2_with (first | ((with_reducible refine gate_builtin (b := .append) (xs := #[.tmp 84, .tmp 92]) rfl ?_); at_builtin; refine Kd.R_append k40 (w0 := w) w.heap.size rfl (.tmp 84) (.tmp 92) 26 40 (.agg #[(.int .i64 0), (.int .i64 0), (.int .i64 0), (.int .i64 0), (.int .i64 0)]) 40 rfl Try.underlying26 info40 rfl (by decide) (by omega) (.slice Ao18 x8_2.length co18) x8_2 (⟨((rd_T34 (rd_L2 l0 x10_1) x12_2).f0), x10_1, x11_3, wrap64 ((rd l1 x10_1) - x10_1), x14_16⟩ : S40) [.int .i64 ((rd_T34 (rd_L2 l0 x10_1) x12_2).f0), .int .i64 x10_1, .int .i64 x11_3, .int .i64 (wrap64 ((rd l1 x10_1) - x10_1)), .int .i64 x14_16] (fun _ => True) (fun _ => False) rfl rfl ?aP (fun _ hk => hk.elim) ?aF ?aO ?aB ?aS ?aL ?_; (case aP => exact k40_mkM _ _ _ (⟨((rd_T34 (rd_L2 l0 x10_1) x12_2).f0), x10_1, x11_3, wrap64 ((rd l1 x10_1) - x10_1), x14_16⟩ : S40)); (case aB => exact (by repeat (first | (with_reducible first | exact HB.out | apply below_alloc | apply pw_below_drewN | apply below_drew1 | refine below_set ?_ GE161.out) | exact HB.out))); (case aF => exact (fun _ _ => trivial)); (case aO => exact (by (with_reducible repeat (first | apply Kd.R_alloc | apply Kd.R_drewN | apply Kd.R_drew)); exact HO_8.out)); (case aS => exact (below_size (by repeat (first | (with_reducible first | exact HB.out | apply below_alloc | apply pw_below_drewN | apply below_drew1 | refine below_set ?_ GE161.out) | exact HB.out)))); (case aL => have := LMc36.out; omega); intro v167 w40 ho hb hg hat; rw [← Ny166.out] at ho; have n0_ := Aside0.mk (blk_grown (g := gb161) (o := .cells #[.int .i64 ((rd_T34 (rd_L2 l0 x10_1) x12_2).f0), .int .i64 ((rd_T34 (rd_L2 l0 x10_1) x12_2).f1), .int .i64 ((rd_T34 (rd_L2 l0 x10_1) x12_2).f2)] 34 (0, 0)) (by (with_reducible repeat (first | refine blk_drewN ?_ _ | refine blk_drew ?_ | refine blk_alloc ?_ _)); exact BK161.out) hg (Kd.R_ne HO_8.out BK161.out (by decide))); have n1_ := Aside0.mk (hb); have n2_ := Aside0.mk (ho); clear BK161; clear HB; clear HO_8; have BK161 := n0_; have HB := n1_; have HO168 := n2_; clear n0_ n1_ n2_; clear ho hb hg hat))
                                              go_ret3
                                              exact ⟨_, by first | rfl | (simp [errW_none, errW_some] <;> rfl) | (simp only [← hji37]; first | rfl | (simp [errW_none, errW_some] <;> rfl)) | (simp [*, errW_none, errW_some] <;> rfl), by first | exact Kd.R_nil _ _ _ _ _ | exact Kd.N_nil _ _ _ _ _ | exact Kd.V_nil _ _ _ _ _ | exact Kd.Q_nil _ _ _ _ _ | exact Kd.S_nil _ _ _ _ _, by repeat (first | (with_reducible first | exact HB.out | apply below_alloc | apply pw_below_drewN | apply below_drew1 | refine below_set ?_ GE161.out) | exact HB.out)⟩
                                            · rw [if_neg c38] at H
                                              have c38b0 : decide (10000 < (ji37)) = false := decide_eq_false c38
                                              clear c38
                                              have H' := Aside0.mk H
                                              clear H
                                              have p165 : 0 ≤ (x10_1 : Int) := of_decide_eq_true (by first | (with_reducible assumption) | assumption)
                                              have q165 : x10_1 < (l1.length : Int) := of_decide_eq_true (by first | (with_reducible assumption) | assumption)
                                              obtain ⟨ad165, e165, hx165_0⟩ := Kd.at_int HR1.out x10_1 p165 q165
                                              cases e165
                                              replace hx165_0 := (HB.out.cell (World.block_lt_of_cell? w _ hx165_0)).trans hx165_0
                                              replace p165 := eq_true p165
                                              replace q165 := eq_true q165
                                              have hcz41_0 : wc.cell? ⟨gb161, 0, none⟩ = some (.int .i64 ((rd_T34 (rd_L2 l0 x10_1) x12_2).f0)) := (blk_cell BK161.out 0).trans rfl
                                              have hcz41_1 : wc.cell? ⟨gb161, 1, none⟩ = some (.int .i64 ((rd_T34 (rd_L2 l0 x10_1) x12_2).f1)) := (blk_cell BK161.out 1).trans rfl
                                              have hcz41_2 : wc.cell? ⟨gb161, 2, none⟩ = some (.int .i64 ((rd_T34 (rd_L2 l0 x10_1) x12_2).f2)) := (blk_cell BK161.out 2).trans rfl
                                              have hfz41_0 := blk_frozen BK161.out 0
                                              have hfz41_1 := blk_frozen BK161.out 1
                                              have hfz41_2 := blk_frozen BK161.out 2
                                              go_wp2_with (first | ((with_reducible refine gate_builtin (b := .append) (xs := #[.tmp 84, .tmp 92]) rfl ?_); at_builtin; refine Kd.R_append k40 (w0 := w) w.heap.size rfl (.tmp 84) (.tmp 92) 26 40 (.agg #[(.int .i64 0), (.int .i64 0), (.int .i64 0), (.int .i64 0), (.int .i64 0)]) 40 rfl Try.underlying26 info40 rfl (by decide) (by omega) (.slice Ao18 x8_2.length co18) x8_2 (⟨((rd_T34 (rd_L2 l0 x10_1) x12_2).f0), x10_1, x11_3, wrap64 ((rd l1 x10_1) - x10_1), x14_16⟩ : S40) [.int .i64 ((rd_T34 (rd_L2 l0 x10_1) x12_2).f0), .int .i64 x10_1, .int .i64 x11_3, .int .i64 (wrap64 ((rd l1 x10_1) - x10_1)), .int .i64 x14_16] (fun _ => True) (fun _ => False) rfl rfl ?aP (fun _ hk => hk.elim) ?aF ?aO ?aB ?aS ?aL ?_; (case aP => exact k40_mkM _ _ _ (⟨((rd_T34 (rd_L2 l0 x10_1) x12_2).f0), x10_1, x11_3, wrap64 ((rd l1 x10_1) - x10_1), x14_16⟩ : S40)); (case aB => exact (by repeat (first | (with_reducible first | exact HB.out | apply below_alloc | apply pw_below_drewN | apply below_drew1 | refine below_set ?_ GE161.out) | exact HB.out))); (case aF => exact (fun _ _ => trivial)); (case aO => exact (by (with_reducible repeat (first | apply Kd.R_alloc | apply Kd.R_drewN | apply Kd.R_drew)); exact HO_8.out)); (case aS => exact (below_size (by repeat (first | (with_reducible first | exact HB.out | apply below_alloc | apply pw_below_drewN | apply below_drew1 | refine below_set ?_ GE161.out) | exact HB.out)))); (case aL => have := LMc36.out; omega); intro v167 w42 ho hb hg hat; rw [← Ny166.out] at ho; have n0_ := Aside0.mk (blk_grown (g := gb161) (o := .cells #[.int .i64 ((rd_T34 (rd_L2 l0 x10_1) x12_2).f0), .int .i64 ((rd_T34 (rd_L2 l0 x10_1) x12_2).f1), .int .i64 ((rd_T34 (rd_L2 l0 x10_1) x12_2).f2)] 34 (0, 0)) (by (with_reducible repeat (first | refine blk_drewN ?_ _ | refine blk_drew ?_ | refine blk_alloc ?_ _)); exact BK161.out) hg (Kd.R_ne HO_8.out BK161.out (by decide))); have n1_ := Aside0.mk (hb); have n2_ := Aside0.mk (ho); clear BK161; clear HB; clear HO_8; have BK161 := n0_; have HB := n1_; have HO168 := n2_; clear n0_ n1_ n2_; clear ho hb hg hat))
                                              go_roundg kj27
                                              case measure => have := HK1.out; have := HK2.out; have := HK3.out; have := HJ16.out; have := HJ27.out; omega
                                              case rel => exact ⟨(y166), (ji37), (wrap64 (x11_3 + x14_16)), (wrap64 (x12_2 + 1)), (by first | rfl | (simp; done) | (simp only [← hji37] <;> (first | rfl | simp)) | (simp [*]; done)), (by first | rfl | (simp; done) | (simp [*]; done)), (by first | rfl | (simp; done) | (simp [*]; done)), H', ⟨by have := HK1.out; have := HK2.out; have := HK3.out; have := HJ16.out; have := HJ27.out; omega⟩, ⟨by (with_reducible repeat (first | apply Kd.R_alloc | apply Kd.R_drewN | apply Kd.R_drew)); exact HO168.out⟩, ⟨by repeat (first | (with_reducible first | exact HB.out | apply below_alloc | apply pw_below_drewN | apply below_drew1 | refine below_set ?_ GE161.out) | exact HB.out)⟩⟩
                                          · rw [if_neg c36] at H
                                            exact absurd H (by simp)
                                        · rw [if_neg c35] at H
                                          exact absurd H (by simp)
                                      · rw [if_neg c34] at H
                                        exact absurd H (by simp)
                                    · replace c33 := Bool.eq_false_iff.mpr c33
                                      subst c33
                                      have H1 : (if x8_2.length < 3518437208883 then (if (mx x9_2 (wrap64 (x11_3 + x14_16))) > 10000 then (some (([] : List (S40)), 0, 43)) else (purflingref07_Lay.l1 kj27 l0 l1 (x8_2 ++ [(⟨((rd_T34 (rd_L2 l0 x10_1) x12_2).f0), x10_1, x11_3, ((rd_T34 (rd_L2 l0 x10_1) x12_2).f2), x14_16⟩ : S40)]) (mx x9_2 (wrap64 (x11_3 + x14_16))) x10_1 (wrap64 (x11_3 + x14_16)) (wrap64 (x12_2 + 1)))) else (none)) = some (r1, r2, r3) := by rw [if_neg (show ¬ (false = true) by decide)] at H; exact H
                                      clear H
                                      have H := H1
                                      clear H1
                                      by_cases c43 : x8_2.length < 3518437208883
                                      · rw [if_pos c43] at H
                                        have LMc43 := Aside0.mk c43
                                        clear c43
                                        obtain ⟨y169, hy169⟩ : ∃ y_ : List (S40), y_ = (x8_2 ++ [(⟨((rd_T34 (rd_L2 l0 x10_1) x12_2).f0), x10_1, x11_3, ((rd_T34 (rd_L2 l0 x10_1) x12_2).f2), x14_16⟩ : S40)]) := ⟨_, rfl⟩
                                        replace H : (if (mx x9_2 (wrap64 (x11_3 + x14_16))) > 10000 then (some (([] : List (S40)), 0, 43)) else (purflingref07_Lay.l1 kj27 l0 l1 y169 (mx x9_2 (wrap64 (x11_3 + x14_16))) x10_1 (wrap64 (x11_3 + x14_16)) (wrap64 (x12_2 + 1)))) = some (r1, r2, r3) := by first | (rw [hy169]; with_reducible exact H) | (have H2_ := (Option.bind_some _ _).symm.trans H; rw [hy169]; with_reducible exact H2_) | (have H2_ := (Option.bind_some _ _).symm.trans H; with_reducible exact H2_) | with_reducible exact H | (rw [hy169]; exact H) | exact H
                                        have Ny169 := Aside0.mk hy169
                                        clear hy169
                                        obtain ⟨ji44, hji44⟩ : ∃ j_ : Int, (mx x9_2 (wrap64 (x11_3 + x14_16))) = j_ := ⟨_, rfl⟩
                                        replace H : (if (ji44) > 10000 then (some (([] : List (S40)), 0, 43)) else (purflingref07_Lay.l1 kj27 l0 l1 y169 ji44 x10_1 (wrap64 (x11_3 + x14_16)) (wrap64 (x12_2 + 1)))) = some (r1, r2, r3) := by first | (rw [hji44] at H; exact H) | (simp only [hji44] at H ⊢; exact H)
                                        have hji44_ : (if x9_2 < (wrap64 (x11_3 + x14_16)) then (wrap64 (x11_3 + x14_16)) else x9_2) = ji44 := hji44
                                        by_cases c45 : (ji44) > 10000
                                        · rw [if_pos c45] at H
                                          have c45b0 : decide (10000 < (ji44)) = true := decide_eq_true c45
                                          clear c45
                                          simp only [Option.some.injEq, Prod.mk.injEq] at H
                                          obtain ⟨rfl, rfl, rfl⟩ := H
                                          have hcz46_0 : wc.cell? ⟨gb161, 0, none⟩ = some (.int .i64 ((rd_T34 (rd_L2 l0 x10_1) x12_2).f0)) := (blk_cell BK161.out 0).trans rfl
                                          have hcz46_1 : wc.cell? ⟨gb161, 1, none⟩ = some (.int .i64 ((rd_T34 (rd_L2 l0 x10_1) x12_2).f1)) := (blk_cell BK161.out 1).trans rfl
                                          have hcz46_2 : wc.cell? ⟨gb161, 2, none⟩ = some (.int .i64 ((rd_T34 (rd_L2 l0 x10_1) x12_2).f2)) := (blk_cell BK161.out 2).trans rfl
                                          have hfz46_0 := blk_frozen BK161.out 0
                                          have hfz46_1 := blk_frozen BK161.out 1
                                          have hfz46_2 := blk_frozen BK161.out 2
                                          go_wp2_with (first | ((with_reducible refine gate_builtin (b := .append) (xs := #[.tmp 84, .tmp 92]) rfl ?_); at_builtin; refine Kd.R_append k40 (w0 := w) w.heap.size rfl (.tmp 84) (.tmp 92) 26 40 (.agg #[(.int .i64 0), (.int .i64 0), (.int .i64 0), (.int .i64 0), (.int .i64 0)]) 40 rfl Try.underlying26 info40 rfl (by decide) (by omega) (.slice Ao18 x8_2.length co18) x8_2 (⟨((rd_T34 (rd_L2 l0 x10_1) x12_2).f0), x10_1, x11_3, ((rd_T34 (rd_L2 l0 x10_1) x12_2).f2), x14_16⟩ : S40) [.int .i64 ((rd_T34 (rd_L2 l0 x10_1) x12_2).f0), .int .i64 x10_1, .int .i64 x11_3, .int .i64 ((rd_T34 (rd_L2 l0 x10_1) x12_2).f2), .int .i64 x14_16] (fun _ => True) (fun _ => False) rfl rfl ?aP (fun _ hk => hk.elim) ?aF ?aO ?aB ?aS ?aL ?_; (case aP => exact k40_mkM _ _ _ (⟨((rd_T34 (rd_L2 l0 x10_1) x12_2).f0), x10_1, x11_3, ((rd_T34 (rd_L2 l0 x10_1) x12_2).f2), x14_16⟩ : S40)); (case aB => exact (by repeat (first | (with_reducible first | exact HB.out | apply below_alloc | apply pw_below_drewN | apply below_drew1 | refine below_set ?_ GE161.out) | exact HB.out))); (case aF => exact (fun _ _ => trivial)); (case aO => exact (by (with_reducible repeat (first | apply Kd.R_alloc | apply Kd.R_drewN | apply Kd.R_drew)); exact HO_8.out)); (case aS => exact (below_size (by repeat (first | (with_reducible first | exact HB.out | apply below_alloc | apply pw_below_drewN | apply below_drew1 | refine below_set ?_ GE161.out) | exact HB.out)))); (case aL => have := LMc43.out; omega); intro v170 w47 ho hb hg hat; rw [← Ny169.out] at ho; have n0_ := Aside0.mk (blk_grown (g := gb161) (o := .cells #[.int .i64 ((rd_T34 (rd_L2 l0 x10_1) x12_2).f0), .int .i64 ((rd_T34 (rd_L2 l0 x10_1) x12_2).f1), .int .i64 ((rd_T34 (rd_L2 l0 x10_1) x12_2).f2)] 34 (0, 0)) (by (with_reducible repeat (first | refine blk_drewN ?_ _ | refine blk_drew ?_ | refine blk_alloc ?_ _)); exact BK161.out) hg (Kd.R_ne HO_8.out BK161.out (by decide))); have n1_ := Aside0.mk (hb); have n2_ := Aside0.mk (ho); clear BK161; clear HB; clear HO_8; have BK161 := n0_; have HB := n1_; have HO171 := n2_; clear n0_ n1_ n2_; clear ho hb hg hat))
                                          go_ret3
                                          exact ⟨_, by first | rfl | (simp [errW_none, errW_some] <;> rfl) | (simp only [← hji44]; first | rfl | (simp [errW_none, errW_some] <;> rfl)) | (simp [*, errW_none, errW_some] <;> rfl), by first | exact Kd.R_nil _ _ _ _ _ | exact Kd.N_nil _ _ _ _ _ | exact Kd.V_nil _ _ _ _ _ | exact Kd.Q_nil _ _ _ _ _ | exact Kd.S_nil _ _ _ _ _, by repeat (first | (with_reducible first | exact HB.out | apply below_alloc | apply pw_below_drewN | apply below_drew1 | refine below_set ?_ GE161.out) | exact HB.out)⟩
                                        · rw [if_neg c45] at H
                                          have c45b0 : decide (10000 < (ji44)) = false := decide_eq_false c45
                                          clear c45
                                          have H' := Aside0.mk H
                                          clear H
                                          have hcz48_0 : wc.cell? ⟨gb161, 0, none⟩ = some (.int .i64 ((rd_T34 (rd_L2 l0 x10_1) x12_2).f0)) := (blk_cell BK161.out 0).trans rfl
                                          have hcz48_1 : wc.cell? ⟨gb161, 1, none⟩ = some (.int .i64 ((rd_T34 (rd_L2 l0 x10_1) x12_2).f1)) := (blk_cell BK161.out 1).trans rfl
                                          have hcz48_2 : wc.cell? ⟨gb161, 2, none⟩ = some (.int .i64 ((rd_T34 (rd_L2 l0 x10_1) x12_2).f2)) := (blk_cell BK161.out 2).trans rfl
                                          have hfz48_0 := blk_frozen BK161.out 0
                                          have hfz48_1 := blk_frozen BK161.out 1
                                          have hfz48_2 := blk_frozen BK161.out 2
                                          go_wp2_with (first | ((with_reducible refine gate_builtin (b := .append) (xs := #[.tmp 84, .tmp 92]) rfl ?_); at_builtin; refine Kd.R_append k40 (w0 := w) w.heap.size rfl (.tmp 84) (.tmp 92) 26 40 (.agg #[(.int .i64 0), (.int .i64 0), (.int .i64 0), (.int .i64 0), (.int .i64 0)]) 40 rfl Try.underlying26 info40 rfl (by decide) (by omega) (.slice Ao18 x8_2.length co18) x8_2 (⟨((rd_T34 (rd_L2 l0 x10_1) x12_2).f0), x10_1, x11_3, ((rd_T34 (rd_L2 l0 x10_1) x12_2).f2), x14_16⟩ : S40) [.int .i64 ((rd_T34 (rd_L2 l0 x10_1) x12_2).f0), .int .i64 x10_1, .int .i64 x11_3, .int .i64 ((rd_T34 (rd_L2 l0 x10_1) x12_2).f2), .int .i64 x14_16] (fun _ => True) (fun _ => False) rfl rfl ?aP (fun _ hk => hk.elim) ?aF ?aO ?aB ?aS ?aL ?_; (case aP => exact k40_mkM _ _ _ (⟨((rd_T34 (rd_L2 l0 x10_1) x12_2).f0), x10_1, x11_3, ((rd_T34 (rd_L2 l0 x10_1) x12_2).f2), x14_16⟩ : S40)); (case aB => exact (by repeat (first | (with_reducible first | exact HB.out | apply below_alloc | apply pw_below_drewN | apply below_drew1 | refine below_set ?_ GE161.out) | exact HB.out))); (case aF => exact (fun _ _ => trivial)); (case aO => exact (by (with_reducible repeat (first | apply Kd.R_alloc | apply Kd.R_drewN | apply Kd.R_drew)); exact HO_8.out)); (case aS => exact (below_size (by repeat (first | (with_reducible first | exact HB.out | apply below_alloc | apply pw_below_drewN | apply below_drew1 | refine below_set ?_ GE161.out) | exact HB.out)))); (case aL => have := LMc43.out; omega); intro v170 w49 ho hb hg hat; rw [← Ny169.out] at ho; have n0_ := Aside0.mk (blk_grown (g := gb161) (o := .cells #[.int .i64 ((rd_T34 (rd_L2 l0 x10_1) x12_2).f0), .int .i64 ((rd_T34 (rd_L2 l0 x10_1) x12_2).f1), .int .i64 ((rd_T34 (rd_L2 l0 x10_1) x12_2).f2)] 34 (0, 0)) (by (with_reducible repeat (first | refine blk_drewN ?_ _ | refine blk_drew ?_ | refine blk_alloc ?_ _)); exact BK161.out) hg (Kd.R_ne HO_8.out BK161.out (by decide))); have n1_ := Aside0.mk (hb); have n2_ := Aside0.mk (ho); clear BK161; clear HB; clear HO_8; have BK161 := n0_; have HB := n1_; have HO171 := n2_; clear n0_ n1_ n2_; clear ho hb hg hat))
                                          go_roundg kj27
                                          case measure => have := HK1.out; have := HK2.out; have := HK3.out; have := HJ16.out; have := HJ27.out; omega
                                          case rel => exact ⟨(y169), (ji44), (wrap64 (x11_3 + x14_16)), (wrap64 (x12_2 + 1)), (by first | rfl | (simp; done) | (simp only [← hji44] <;> (first | rfl | simp)) | (simp [*]; done)), (by first | rfl | (simp; done) | (simp [*]; done)), (by first | rfl | (simp; done) | (simp [*]; done)), H', ⟨by have := HK1.out; have := HK2.out; have := HK3.out; have := HJ16.out; have := HJ27.out; omega⟩, ⟨by (with_reducible repeat (first | apply Kd.R_alloc | apply Kd.R_drewN | apply Kd.R_drew)); exact HO171.out⟩, ⟨by repeat (first | (with_reducible first | exact HB.out | apply below_alloc | apply pw_below_drewN | apply below_drew1 | refine below_set ?_ GE161.out) | exact HB.out)⟩⟩
                                      · rw [if_neg c43] at H
                                        exact absurd H (by simp)
                    · rw [if_neg c10] at H
                      exact absurd H (by simp)
                  · rw [if_neg c9] at H
                    have c9b0 : decide (x12_2 < ((rd_L2 l0 x10_1).length : Int)) = false := decide_eq_false c9
                    clear c9
                    have H' := Aside0.mk H
                    clear H
                    have p158 : 0 ≤ (x10_1 : Int) := of_decide_eq_true (by first | (with_reducible assumption) | assumption)
                    have q158 : x10_1 < (l0.length : Int) := of_decide_eq_true (by first | (with_reducible assumption) | assumption)
                    obtain ⟨ad158, A158_0, c158_0, e158, hx158_0, hl158_0, hi158_0⟩ := at_L2 HR0.out x10_1 p158 q158
                    cases e158
                    replace hx158_0 := (HB.out.cell (World.block_lt_of_cell? w _ hx158_0)).trans hx158_0
                    have HR158_0 := Aside0.mk hi158_0
                    have HC158_0 := Aside0.mk hl158_0
                    clear hi158_0 hl158_0
                    replace p158 := eq_true p158
                    replace q158 := eq_true q158
                    go_wp2
                    go_roundg k2
                    case measure => have := HK1.out; have := HK2.out; omega
                    case rel => exact ⟨(x8_2), (x9_2), (wrap64 (x10_1 + 1)), (by first | rfl | (simp; done) | (simp [*]; done)), (by first | rfl | (simp; done) | (simp [*]; done)), H', ⟨by have := HK1.out; have := HK2.out; omega⟩, ⟨by (with_reducible repeat (first | apply Kd.R_alloc | apply Kd.R_drewN | apply Kd.R_drew)); exact HO_8.out⟩, ⟨by repeat (first | (with_reducible first | exact HB.out | apply below_alloc | apply pw_below_drewN | apply below_drew1) | exact HB.out)⟩⟩
                · rw [if_neg c8] at H
                  exact absurd H (by simp)
              · rw [if_neg c7] at H
                exact absurd H (by simp)
        · rw [if_neg c6] at H
          have c6b0 : decide (x10_1 < (l0.length : Int)) = false := decide_eq_false c6
          clear c6
          simp only [Option.some.injEq, Prod.mk.injEq] at H
          obtain ⟨rfl, rfl, rfl⟩ := H
          go_wp2
          go_ret3
          exact ⟨_, by first | rfl | (simp [errW_none, errW_some] <;> rfl) | (simp [*, errW_none, errW_some] <;> rfl), by (with_reducible repeat (first | apply Kd.R_alloc | apply Kd.R_drewN | apply Kd.R_drew)); exact HO_8.out, by repeat (first | (with_reducible first | exact HB.out | apply below_alloc | apply pw_below_drewN | apply below_drew1) | exact HB.out)⟩
  · replace c4 := Bool.eq_false_iff.mpr c4
    subst c4
    have H1 : (some (([] : List (S40)), 0, 70)) = some (r1, r2, r3) := by rw [if_neg (show ¬ (false = true) by decide)] at H; exact H
    clear H
    have H := H1
    clear H1
    simp only [Option.some.injEq, Prod.mk.injEq] at H
    obtain ⟨rfl, rfl, rfl⟩ := H
    go_enter Try.func18, Try.ntmps18
    go_wp2_with (first | ((with_reducible refine gate_callee (f := 20) rfl ?_); refine goesL_ (some 18) rfl rfl Try.func20 (by kernel_rfl) rfl #[.slice A0 l0.length c0, .slice A1 l1.length c1] rfl (by (try simp only [List.map_toArray, List.map_cons, List.map_nil]); first | done | rfl | (simp only [List.length_drop, List.length_take]; rfl)) ?_; (with_reducible refine (purflingref07_Right.calls k _ _ l0 _ _ l1 false _ ?side1 ?side2 ?side3 ?side4 A3.out).mono ?_); (case side1 => repeat (first | exact HR0.out | (with_reducible refine Kd.C_alloc ?_ _) | (with_reducible refine Kd.C_drewN ?_ _) | (with_reducible refine Kd.C_drew ?_))); (case side2 => exact HC0.out); (case side3 => repeat (first | exact HR1.out | (with_reducible refine Kd.C_alloc ?_ _) | (with_reducible refine Kd.C_drewN ?_ _) | (with_reducible refine Kd.C_drew ?_))); (case side4 => exact HC1.out); rintro e w50 ⟨rfl, hb⟩; refine ⟨_, rfl, ?_⟩; have n0_ := Aside0.mk (below_step (by repeat (first | (with_reducible first | exact HB.out | apply below_alloc | apply pw_below_drewN | apply below_drew1) | exact HB.out)) hb); clear HB; have HB := n0_; clear n0_; (try clear hb); (try clear hb2); (try clear hk); (try clear hi)))
    go_ret3
    exact ⟨_, by first | rfl | (simp [errW_none, errW_some] <;> rfl) | (simp [*, errW_none, errW_some] <;> rfl), by first | exact Kd.R_nil _ _ _ _ _ | exact Kd.N_nil _ _ _ _ _ | exact Kd.V_nil _ _ _ _ _ | exact Kd.Q_nil _ _ _ _ _ | exact Kd.S_nil _ _ _ _ _, by repeat (first | (with_reducible first | exact HB.out | apply below_alloc | apply pw_below_drewN | apply below_drew1) | exact HB.out)⟩

end Go.Proofs.Ytfoocmmjefdojaa.K
