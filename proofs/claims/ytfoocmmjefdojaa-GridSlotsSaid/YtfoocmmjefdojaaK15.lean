-- PRINTED by print.py (a twelfth state) out of the translation. Not trusted: Lean checks it.
import Derived.Test.YtfoocmmjefdojaaSlots
import Derived.Test.YtfoocmmjefdojaaK0
import Derived.Test.YtfoocmmjefdojaaK2
import Derived.Test.YtfoocmmjefdojaaK4
import Derived.Test.YtfoocmmjefdojaaK13
import Derived.Test.YtfoocmmjefdojaaK14
namespace Go.Proofs.Ytfoocmmjefdojaa.K
open Go.RowKit Go.Proofs.YtfoocmmjefdojaaW.PrintWords Go.Proofs.YtfoocmmjefdojaaW.PrintLast Go.Proofs.YtfoocmmjefdojaaW.PrintMore
attribute [local go_sem] max2_int min2_int max_two min_two max_three min_three max_four min_four   -- for this text's walks alone
set_option linter.unusedVariables false
set_option linter.unusedSimpArgs false

attribute [local go_sem high] eqA45
/-! ### purflinglaw07_GridSlots: function 7 -/
mutual
def purflinglaw07_GridSlots.j0 : Nat → List (S40) → Int → Int → Bool → Bool → Option (Bool)
  | 0, _, _, _, _, _ => none
  | k + 1, x0, x1, x2, x7, x56 => if x56 = true then (some x7) else ((grid_Slots.f x0 x1 x2).bind fun bt284 => ((purflingref07_Slots.f k x0 x1 x2).bind fun bt288 => ((grid_Empty.f x0 x1 x2).bind fun bt292 => (if bt284.2 = bt288.2 then (if bt284.2 = bt292.2 then (purflinglaw07_GridSlots.j1 k x7 bt284.1 bt288.1 bt292.1 ((bt284.1.length : Int) != (bt288.1.length : Int))) else (purflinglaw07_GridSlots.j1 k x7 bt284.1 bt288.1 bt292.1 true)) else (purflinglaw07_GridSlots.j1 k x7 bt284.1 bt288.1 bt292.1 true)))))
def purflinglaw07_GridSlots.j1 : Nat → Bool → List (List Int) → List (List Int) → List (S45) → Bool → Option (Bool)
  | 0, _, _, _, _, _ => none
  | k + 1, x7, x8, x10, x12, x93 => if x93 = true then (some false) else (purflinglaw07_GridSlots.l0 k x7 x8 x10 x12 0 0)
def purflinglaw07_GridSlots.l0 : Nat → Bool → List (List Int) → List (List Int) → List (S45) → Int → Int → Option (Bool)
  | 0, _, _, _, _, _, _ => none
  | k + 1, x7, x8, x10, x12, x14, x15 => if x15 < (x8.length : Int) then (if 0 ≤ x15 then (if x15 < (x10.length : Int) then ((purflingref04_Ints.f k (rd_L4 x8 x15) (rd_L4 x10 x15)).bind fun t298 => (if t298 = true then (purflinglaw07_GridSlots.l1 k x7 x8 x10 x12 x14 x15 0) else (some false))) else (none)) else (none)) else (if x7 = true then (some (x14 == (x12.length : Int))) else (some false))
def purflinglaw07_GridSlots.l1 : Nat → Bool → List (List Int) → List (List Int) → List (S45) → Int → Int → Int → Option (Bool)
  | 0, _, _, _, _, _, _, _ => none
  | k + 1, x7, x8, x10, x12, x14, x15, x16 => if 0 ≤ x15 then (if x15 < (x10.length : Int) then (if x16 < ((rd_L4 x10 x15).length : Int) then (if 0 ≤ x16 then (if (rd (rd_L4 x10 x15) x16) ≥ 0 then (purflinglaw07_GridSlots.l1 k x7 x8 x10 x12 x14 x15 (wrap64 (x16 + 1))) else (if x14 ≥ (x12.length : Int) then (some false) else (if 0 ≤ x14 then (if x14 < (x12.length : Int) then (if (!(((rd_T45 x12 x14).f0) == x15) || (!(((rd_T45 x12 x14).f1) == x16))) = true then (some false) else (purflinglaw07_GridSlots.l1 k x7 x8 x10 x12 (wrap64 (x14 + 1)) x15 (wrap64 (x16 + 1)))) else (none)) else (none)))) else (none)) else (purflinglaw07_GridSlots.l0 k x7 x8 x10 x12 x14 (wrap64 (x15 + 1)))) else (none)) else (none)
end
def purflinglaw07_GridSlots.f (k : Nat) (l0 : List (S40)) (a1 : Int) (a2 : Int) : Option (Bool) := (purflinglaw07_shown.f k).bind fun t279 => (if 0 ≤ (mn (l0.length : Int) 60) then (if (mn (l0.length : Int) 60) ≤ (l0.length : Int) then ((some (l0.take ((mn (l0.length : Int) 60) : Int).toNat : List (S40))).bind fun y280 => (if a1 > 0 then (if a2 > 0 then (if a1 ≤ 65536 then (if a2 ≤ 10000 then (if (wrap64 (a1 * a2)) > 10000 then (if (wrap64 (a1 * a2)) ≤ 1000000 then (purflinglaw07_GridSlots.j0 k y280 a1 a2 t279 true) else (if a1 > 2000 then (purflinglaw07_GridSlots.j0 k y280 a1 a2 t279 (decide (a1 ≤ 65536))) else (purflinglaw07_GridSlots.j0 k y280 a1 a2 t279 false))) else (if a1 > 2000 then (purflinglaw07_GridSlots.j0 k y280 a1 a2 t279 (decide (a1 ≤ 65536))) else (purflinglaw07_GridSlots.j0 k y280 a1 a2 t279 false))) else (if a1 > 2000 then (purflinglaw07_GridSlots.j0 k y280 a1 a2 t279 (decide (a1 ≤ 65536))) else (purflinglaw07_GridSlots.j0 k y280 a1 a2 t279 false))) else (if a1 > 2000 then (purflinglaw07_GridSlots.j0 k y280 a1 a2 t279 (decide (a1 ≤ 65536))) else (purflinglaw07_GridSlots.j0 k y280 a1 a2 t279 false))) else (if a1 > 2000 then (purflinglaw07_GridSlots.j0 k y280 a1 a2 t279 (decide (a1 ≤ 65536))) else (purflinglaw07_GridSlots.j0 k y280 a1 a2 t279 false))) else (if a1 > 2000 then (purflinglaw07_GridSlots.j0 k y280 a1 a2 t279 (decide (a1 ≤ 65536))) else (purflinglaw07_GridSlots.j0 k y280 a1 a2 t279 false)))) else (none)) else (none))
theorem purflinglaw07_GridSlots.mono_l : ∀ k, (∀ y0 y1 y2 y3 y4, LeO (purflinglaw07_GridSlots.j0 k y0 y1 y2 y3 y4) (purflinglaw07_GridSlots.j0 (k + 1) y0 y1 y2 y3 y4)) ∧ (∀ y0 y1 y2 y3 y4, LeO (purflinglaw07_GridSlots.j1 k y0 y1 y2 y3 y4) (purflinglaw07_GridSlots.j1 (k + 1) y0 y1 y2 y3 y4)) ∧ (∀ y0 y1 y2 y3 y4 y5, LeO (purflinglaw07_GridSlots.l0 k y0 y1 y2 y3 y4 y5) (purflinglaw07_GridSlots.l0 (k + 1) y0 y1 y2 y3 y4 y5)) ∧ (∀ y0 y1 y2 y3 y4 y5 y6, LeO (purflinglaw07_GridSlots.l1 k y0 y1 y2 y3 y4 y5 y6) (purflinglaw07_GridSlots.l1 (k + 1) y0 y1 y2 y3 y4 y5 y6))
  | 0 => ⟨fun _ _ _ _ _ r h => by simp [purflinglaw07_GridSlots.j0] at h, fun _ _ _ _ _ r h => by simp [purflinglaw07_GridSlots.j1] at h, fun _ _ _ _ _ _ r h => by simp [purflinglaw07_GridSlots.l0] at h, fun _ _ _ _ _ _ _ r h => by simp [purflinglaw07_GridSlots.l1] at h⟩
  | k + 1 => by
    obtain ⟨ih0, ih1, ih2, ih3⟩ := purflinglaw07_GridSlots.mono_l k
    refine ⟨?_, ?_, ?_, ?_⟩
    · intro y0 y1 y2 y3 y4
      unfold purflinglaw07_GridSlots.j0
      repeat' first
      | (with_reducible exact ih0 _ _ _ _ _)
      | (with_reducible exact ih1 _ _ _ _ _)
      | (with_reducible exact ih2 _ _ _ _ _ _)
      | (with_reducible exact ih3 _ _ _ _ _ _ _)
      | (with_reducible exact purflinglaw07_shown.mono _)
      | (with_reducible exact purflingref04_Ints.mono _ _ _)
      | (with_reducible exact purflingref07_Slots.mono _ _ _ _)
      | (with_reducible exact LeO.refl _)
      | (with_reducible exact LeO.none _)
      | (with_reducible refine LeO.ite ?_ ?_)
      | (with_reducible refine LeO.bind ?_ (fun _ => ?_))
      | exact ih0 _ _ _ _ _
      | exact ih1 _ _ _ _ _
      | exact ih2 _ _ _ _ _ _
      | exact ih3 _ _ _ _ _ _ _
      | exact purflinglaw07_shown.mono _
      | exact purflingref04_Ints.mono _ _ _
      | exact purflingref07_Slots.mono _ _ _ _
      | exact LeO.none _
      | refine LeO.ite ?_ ?_
      | refine LeO.bind ?_ (fun _ => ?_)
    · intro y0 y1 y2 y3 y4
      unfold purflinglaw07_GridSlots.j1
      repeat' first
      | (with_reducible exact ih0 _ _ _ _ _)
      | (with_reducible exact ih1 _ _ _ _ _)
      | (with_reducible exact ih2 _ _ _ _ _ _)
      | (with_reducible exact ih3 _ _ _ _ _ _ _)
      | (with_reducible exact purflinglaw07_shown.mono _)
      | (with_reducible exact purflingref04_Ints.mono _ _ _)
      | (with_reducible exact purflingref07_Slots.mono _ _ _ _)
      | (with_reducible exact LeO.refl _)
      | (with_reducible exact LeO.none _)
      | (with_reducible refine LeO.ite ?_ ?_)
      | (with_reducible refine LeO.bind ?_ (fun _ => ?_))
      | exact ih0 _ _ _ _ _
      | exact ih1 _ _ _ _ _
      | exact ih2 _ _ _ _ _ _
      | exact ih3 _ _ _ _ _ _ _
      | exact purflinglaw07_shown.mono _
      | exact purflingref04_Ints.mono _ _ _
      | exact purflingref07_Slots.mono _ _ _ _
      | exact LeO.none _
      | refine LeO.ite ?_ ?_
      | refine LeO.bind ?_ (fun _ => ?_)
    · intro y0 y1 y2 y3 y4 y5
      unfold purflinglaw07_GridSlots.l0
      repeat' first
      | (with_reducible exact ih0 _ _ _ _ _)
      | (with_reducible exact ih1 _ _ _ _ _)
      | (with_reducible exact ih2 _ _ _ _ _ _)
      | (with_reducible exact ih3 _ _ _ _ _ _ _)
      | (with_reducible exact purflinglaw07_shown.mono _)
      | (with_reducible exact purflingref04_Ints.mono _ _ _)
      | (with_reducible exact purflingref07_Slots.mono _ _ _ _)
      | (with_reducible exact LeO.refl _)
      | (with_reducible exact LeO.none _)
      | (with_reducible refine LeO.ite ?_ ?_)
      | (with_reducible refine LeO.bind ?_ (fun _ => ?_))
      | exact ih0 _ _ _ _ _
      | exact ih1 _ _ _ _ _
      | exact ih2 _ _ _ _ _ _
      | exact ih3 _ _ _ _ _ _ _
      | exact purflinglaw07_shown.mono _
      | exact purflingref04_Ints.mono _ _ _
      | exact purflingref07_Slots.mono _ _ _ _
      | exact LeO.none _
      | refine LeO.ite ?_ ?_
      | refine LeO.bind ?_ (fun _ => ?_)
    · intro y0 y1 y2 y3 y4 y5 y6
      unfold purflinglaw07_GridSlots.l1
      repeat' first
      | (with_reducible exact ih0 _ _ _ _ _)
      | (with_reducible exact ih1 _ _ _ _ _)
      | (with_reducible exact ih2 _ _ _ _ _ _)
      | (with_reducible exact ih3 _ _ _ _ _ _ _)
      | (with_reducible exact purflinglaw07_shown.mono _)
      | (with_reducible exact purflingref04_Ints.mono _ _ _)
      | (with_reducible exact purflingref07_Slots.mono _ _ _ _)
      | (with_reducible exact LeO.refl _)
      | (with_reducible exact LeO.none _)
      | (with_reducible refine LeO.ite ?_ ?_)
      | (with_reducible refine LeO.bind ?_ (fun _ => ?_))
      | exact ih0 _ _ _ _ _
      | exact ih1 _ _ _ _ _
      | exact ih2 _ _ _ _ _ _
      | exact ih3 _ _ _ _ _ _ _
      | exact purflinglaw07_shown.mono _
      | exact purflingref04_Ints.mono _ _ _
      | exact purflingref07_Slots.mono _ _ _ _
      | exact LeO.none _
      | refine LeO.ite ?_ ?_
      | refine LeO.bind ?_ (fun _ => ?_)
theorem purflinglaw07_GridSlots.mono : ∀ a0 a1 a2 k, LeO (purflinglaw07_GridSlots.f k a0 a1 a2) (purflinglaw07_GridSlots.f (k + 1) a0 a1 a2) := by
  intro a0 a1 a2 k
  obtain ⟨ih0, ih1, ih2, ih3⟩ := purflinglaw07_GridSlots.mono_l k
  unfold purflinglaw07_GridSlots.f
  repeat' first
      | (with_reducible exact ih0 _ _ _ _ _)
      | (with_reducible exact ih1 _ _ _ _ _)
      | (with_reducible exact ih2 _ _ _ _ _ _)
      | (with_reducible exact ih3 _ _ _ _ _ _ _)
      | (with_reducible exact purflinglaw07_shown.mono _)
      | (with_reducible exact purflingref04_Ints.mono _ _ _)
      | (with_reducible exact purflingref07_Slots.mono _ _ _ _)
      | (with_reducible exact LeO.refl _)
      | (with_reducible exact LeO.none _)
      | (with_reducible refine LeO.ite ?_ ?_)
      | (with_reducible refine LeO.bind ?_ (fun _ => ?_))
      | exact ih0 _ _ _ _ _
      | exact ih1 _ _ _ _ _
      | exact ih2 _ _ _ _ _ _
      | exact ih3 _ _ _ _ _ _ _
      | exact purflinglaw07_shown.mono _
      | exact purflingref04_Ints.mono _ _ _
      | exact purflingref07_Slots.mono _ _ _ _
      | exact LeO.none _
      | refine LeO.ite ?_ ?_
      | refine LeO.bind ?_ (fun _ => ?_)
set_option maxHeartbeats 8000000 in
set_option maxRecDepth 100000 in
theorem purflinglaw07_GridSlots.calls (k : Nat) (A0 : Option Addr) (c0 : Nat) (l0 : List (S40)) (a1 : Int) (a2 : Int) (r : Bool) (w : World) (hr0 : Kd.C k40 w A0 l0.length l0) (hc0 : l0.length ≤ c0) (h : purflinglaw07_GridSlots.f k l0 a1 a2 = some r) :
    Calls Try.prog 7 #[.slice A0 l0.length c0, .int .i64 a1, .int .i64 a2] w fun e w' => e = .returned (.bool r) ∧ Below w.heap.size w w' := by
  have hu45 := Try.underlying45
  have HR0 := Aside0.mk hr0
  have HC0 := Aside0.mk hc0
  clear hr0 hc0
  have HB := Aside0.mk (Below.refl w.heap.size w)
  have H : ((purflinglaw07_shown.f k).bind fun t279 => (if 0 ≤ (mn (l0.length : Int) 60) then (if (mn (l0.length : Int) 60) ≤ (l0.length : Int) then ((some (l0.take ((mn (l0.length : Int) 60) : Int).toNat : List (S40))).bind fun y280 => (if a1 > 0 then (if a2 > 0 then (if a1 ≤ 65536 then (if a2 ≤ 10000 then (if (wrap64 (a1 * a2)) > 10000 then (if (wrap64 (a1 * a2)) ≤ 1000000 then (purflinglaw07_GridSlots.j0 k y280 a1 a2 t279 true) else (if a1 > 2000 then (purflinglaw07_GridSlots.j0 k y280 a1 a2 t279 (decide (a1 ≤ 65536))) else (purflinglaw07_GridSlots.j0 k y280 a1 a2 t279 false))) else (if a1 > 2000 then (purflinglaw07_GridSlots.j0 k y280 a1 a2 t279 (decide (a1 ≤ 65536))) else (purflinglaw07_GridSlots.j0 k y280 a1 a2 t279 false))) else (if a1 > 2000 then (purflinglaw07_GridSlots.j0 k y280 a1 a2 t279 (decide (a1 ≤ 65536))) else (purflinglaw07_GridSlots.j0 k y280 a1 a2 t279 false))) else (if a1 > 2000 then (purflinglaw07_GridSlots.j0 k y280 a1 a2 t279 (decide (a1 ≤ 65536))) else (purflinglaw07_GridSlots.j0 k y280 a1 a2 t279 false))) else (if a1 > 2000 then (purflinglaw07_GridSlots.j0 k y280 a1 a2 t279 (decide (a1 ≤ 65536))) else (purflinglaw07_GridSlots.j0 k y280 a1 a2 t279 false))) else (if a1 > 2000 then (purflinglaw07_GridSlots.j0 k y280 a1 a2 t279 (decide (a1 ≤ 65536))) else (purflinglaw07_GridSlots.j0 k y280 a1 a2 t279 false)))) else (none)) else (none))) = some r := h
  clear h
  replace H := Option.bind_eq_some_iff.mp H
  obtain ⟨t279, A40, H⟩ := H
  replace H : (if 0 ≤ (mn (l0.length : Int) 60) then (if (mn (l0.length : Int) 60) ≤ (l0.length : Int) then ((some (l0.take ((mn (l0.length : Int) 60) : Int).toNat : List (S40))).bind fun y280 => (if a1 > 0 then (if a2 > 0 then (if a1 ≤ 65536 then (if a2 ≤ 10000 then (if (wrap64 (a1 * a2)) > 10000 then (if (wrap64 (a1 * a2)) ≤ 1000000 then (purflinglaw07_GridSlots.j0 k y280 a1 a2 t279 true) else (if a1 > 2000 then (purflinglaw07_GridSlots.j0 k y280 a1 a2 t279 (decide (a1 ≤ 65536))) else (purflinglaw07_GridSlots.j0 k y280 a1 a2 t279 false))) else (if a1 > 2000 then (purflinglaw07_GridSlots.j0 k y280 a1 a2 t279 (decide (a1 ≤ 65536))) else (purflinglaw07_GridSlots.j0 k y280 a1 a2 t279 false))) else (if a1 > 2000 then (purflinglaw07_GridSlots.j0 k y280 a1 a2 t279 (decide (a1 ≤ 65536))) else (purflinglaw07_GridSlots.j0 k y280 a1 a2 t279 false))) else (if a1 > 2000 then (purflinglaw07_GridSlots.j0 k y280 a1 a2 t279 (decide (a1 ≤ 65536))) else (purflinglaw07_GridSlots.j0 k y280 a1 a2 t279 false))) else (if a1 > 2000 then (purflinglaw07_GridSlots.j0 k y280 a1 a2 t279 (decide (a1 ≤ 65536))) else (purflinglaw07_GridSlots.j0 k y280 a1 a2 t279 false))) else (if a1 > 2000 then (purflinglaw07_GridSlots.j0 k y280 a1 a2 t279 (decide (a1 ≤ 65536))) else (purflinglaw07_GridSlots.j0 k y280 a1 a2 t279 false)))) else (none)) else (none)) = some r := H
  have A4 := Aside0.mk A40
  clear A40
  obtain ⟨ji5, hji5⟩ : ∃ j_ : Int, (mn (l0.length : Int) 60) = j_ := ⟨_, rfl⟩
  replace H : (if 0 ≤ (ji5) then (if (ji5) ≤ (l0.length : Int) then ((some (l0.take ((ji5) : Int).toNat : List (S40))).bind fun y280 => (if a1 > 0 then (if a2 > 0 then (if a1 ≤ 65536 then (if a2 ≤ 10000 then (if (wrap64 (a1 * a2)) > 10000 then (if (wrap64 (a1 * a2)) ≤ 1000000 then (purflinglaw07_GridSlots.j0 k y280 a1 a2 t279 true) else (if a1 > 2000 then (purflinglaw07_GridSlots.j0 k y280 a1 a2 t279 (decide (a1 ≤ 65536))) else (purflinglaw07_GridSlots.j0 k y280 a1 a2 t279 false))) else (if a1 > 2000 then (purflinglaw07_GridSlots.j0 k y280 a1 a2 t279 (decide (a1 ≤ 65536))) else (purflinglaw07_GridSlots.j0 k y280 a1 a2 t279 false))) else (if a1 > 2000 then (purflinglaw07_GridSlots.j0 k y280 a1 a2 t279 (decide (a1 ≤ 65536))) else (purflinglaw07_GridSlots.j0 k y280 a1 a2 t279 false))) else (if a1 > 2000 then (purflinglaw07_GridSlots.j0 k y280 a1 a2 t279 (decide (a1 ≤ 65536))) else (purflinglaw07_GridSlots.j0 k y280 a1 a2 t279 false))) else (if a1 > 2000 then (purflinglaw07_GridSlots.j0 k y280 a1 a2 t279 (decide (a1 ≤ 65536))) else (purflinglaw07_GridSlots.j0 k y280 a1 a2 t279 false))) else (if a1 > 2000 then (purflinglaw07_GridSlots.j0 k y280 a1 a2 t279 (decide (a1 ≤ 65536))) else (purflinglaw07_GridSlots.j0 k y280 a1 a2 t279 false)))) else (none)) else (none)) = some r := by first | (rw [hji5] at H; exact H) | (simp only [hji5] at H ⊢; exact H)
  (try rw [hji5] at A4)
  (try (have hji5h : ji5 ≤ 60 := by (rw [← hji5]; unfold mn; (repeat' split) <;> omega)))
  (try (have hji5g : ji5 ≤ 64 := by omega))
  (try (have hji5l : 0 ≤ ji5 := by (rw [← hji5]; unfold mn; (repeat' split) <;> omega)))
  (try (have hji5m : 0 ≤ ji5 := by omega))
  have hji5_ : (if 60 < (l0.length : Int) then 60 else (l0.length : Int)) = ji5 := hji5
  by_cases c6 : 0 ≤ (ji5)
  · rw [if_pos c6] at H
    have c6b0 := eq_true c6
    have c6b1 : decide (0 ≤ (ji5)) = true := decide_eq_true c6
    clear c6
    by_cases c7 : (ji5) ≤ (l0.length : Int)
    · rw [if_pos c7] at H
      have c7b0 := eq_true c7
      have c7b1 : decide ((ji5) ≤ (l0.length : Int)) = true := decide_eq_true c7
      clear c7
      obtain ⟨y280, hy280⟩ : ∃ y_ : List (S40), y_ = (l0.take ((ji5) : Int).toNat) := ⟨_, rfl⟩
      replace H : (if a1 > 0 then (if a2 > 0 then (if a1 ≤ 65536 then (if a2 ≤ 10000 then (if (wrap64 (a1 * a2)) > 10000 then (if (wrap64 (a1 * a2)) ≤ 1000000 then (purflinglaw07_GridSlots.j0 k y280 a1 a2 t279 true) else (if a1 > 2000 then (purflinglaw07_GridSlots.j0 k y280 a1 a2 t279 (decide (a1 ≤ 65536))) else (purflinglaw07_GridSlots.j0 k y280 a1 a2 t279 false))) else (if a1 > 2000 then (purflinglaw07_GridSlots.j0 k y280 a1 a2 t279 (decide (a1 ≤ 65536))) else (purflinglaw07_GridSlots.j0 k y280 a1 a2 t279 false))) else (if a1 > 2000 then (purflinglaw07_GridSlots.j0 k y280 a1 a2 t279 (decide (a1 ≤ 65536))) else (purflinglaw07_GridSlots.j0 k y280 a1 a2 t279 false))) else (if a1 > 2000 then (purflinglaw07_GridSlots.j0 k y280 a1 a2 t279 (decide (a1 ≤ 65536))) else (purflinglaw07_GridSlots.j0 k y280 a1 a2 t279 false))) else (if a1 > 2000 then (purflinglaw07_GridSlots.j0 k y280 a1 a2 t279 (decide (a1 ≤ 65536))) else (purflinglaw07_GridSlots.j0 k y280 a1 a2 t279 false))) else (if a1 > 2000 then (purflinglaw07_GridSlots.j0 k y280 a1 a2 t279 (decide (a1 ≤ 65536))) else (purflinglaw07_GridSlots.j0 k y280 a1 a2 t279 false))) = some r := by first | (rw [hy280]; with_reducible exact H) | (have H2_ := (Option.bind_some _ _).symm.trans H; rw [hy280]; with_reducible exact H2_) | (have H2_ := (Option.bind_some _ _).symm.trans H; with_reducible exact H2_) | with_reducible exact H | (rw [hy280]; exact H) | exact H
      have Ny280 := Aside0.mk hy280
      clear hy280
      have HC8 := Aside0.mk H
      clear H
      go_enter Try.func7, Try.ntmps7
      go_upto_region 3 with (first | (go_at_call 15; (with_reducible refine (purflinglaw07_shown.calls k  t279 _ A4.out).mono ?_); rintro e w9 ⟨rfl, hb⟩; have n0_ := Aside0.mk (below_step (by repeat (first | (with_reducible first | exact HB.out | apply below_alloc | apply pw_below_drewN | apply below_drew1) | exact HB.out)) hb); clear HB; have HB := n0_; clear n0_; (try clear hb); (try clear hb2); (try clear hk); (try clear hi); have q10 : ((ji5) : Int) ≤ ((l0.length : Int) : Int) := of_decide_eq_true (by first | (with_reducible assumption) | assumption); obtain ⟨i010, hi010, _, hsz10, _⟩ := info_parts info40; have hroom10 : l0.length ≤ c0 := HC0.out; have hC10 : Kd.C k40 _ A0 l0.length l0 := HR0.out; have hcut10 := cut_to (P := Try.prog) 26 40 .i64 Try.underlying26 hi010 A0 l0.length c0 (ji5) (of_decide_eq_true (by first | (with_reducible assumption) | assumption)) q10 hroom10; have hr10 := Kd.C_take (m := ((ji5) : Int).toNat) hC10 (by omega); have hy10 : y280.length = ((ji5) : Int).toNat := (by rw [Ny280.out, List.length_take]; omega); rw [← Ny280.out] at hr10; rw [← hy10] at hcut10; have HR283 := Aside0.mk hr10; have HC283 := Aside0.mk (show y280.length ≤ c0 from by omega); clear hr10 hC10 hroom10 hi010 hsz10; have KY10 := Aside0.mk hy10; clear hy10; replace q10 := eq_true q10))
      repeat (go_quiet (first | (go_at_call 15; (with_reducible refine (purflinglaw07_shown.calls k  t279 _ A4.out).mono ?_); rintro e w9 ⟨rfl, hb⟩; have n0_ := Aside0.mk (below_step (by repeat (first | (with_reducible first | exact HB.out | apply below_alloc | apply pw_below_drewN | apply below_drew1) | exact HB.out)) hb); clear HB; have HB := n0_; clear n0_; (try clear hb); (try clear hb2); (try clear hk); (try clear hi); have q10 : ((ji5) : Int) ≤ ((l0.length : Int) : Int) := of_decide_eq_true (by first | (with_reducible assumption) | assumption); obtain ⟨i010, hi010, _, hsz10, _⟩ := info_parts info40; have hroom10 : l0.length ≤ c0 := HC0.out; have hC10 : Kd.C k40 _ A0 l0.length l0 := HR0.out; have hcut10 := cut_to (P := Try.prog) 26 40 .i64 Try.underlying26 hi010 A0 l0.length c0 (ji5) (of_decide_eq_true (by first | (with_reducible assumption) | assumption)) q10 hroom10; have hr10 := Kd.C_take (m := ((ji5) : Int).toNat) hC10 (by omega); have hy10 : y280.length = ((ji5) : Int).toNat := (by rw [Ny280.out, List.length_take]; omega); rw [← Ny280.out] at hr10; rw [← hy10] at hcut10; have HR283 := Aside0.mk hr10; have HC283 := Aside0.mk (show y280.length ≤ c0 from by omega); clear hr10 hC10 hroom10 hi010 hsz10; have KY10 := Aside0.mk hy10; clear hy10; replace q10 := eq_true q10)); go_upto_region 3 with (first | (go_at_call 15; (with_reducible refine (purflinglaw07_shown.calls k  t279 _ A4.out).mono ?_); rintro e w9 ⟨rfl, hb⟩; have n0_ := Aside0.mk (below_step (by repeat (first | (with_reducible first | exact HB.out | apply below_alloc | apply pw_below_drewN | apply below_drew1) | exact HB.out)) hb); clear HB; have HB := n0_; clear n0_; (try clear hb); (try clear hb2); (try clear hk); (try clear hi); have q10 : ((ji5) : Int) ≤ ((l0.length : Int) : Int) := of_decide_eq_true (by first | (with_reducible assumption) | assumption); obtain ⟨i010, hi010, _, hsz10, _⟩ := info_parts info40; have hroom10 : l0.length ≤ c0 := HC0.out; have hC10 : Kd.C k40 _ A0 l0.length l0 := HR0.out; have hcut10 := cut_to (P := Try.prog) 26 40 .i64 Try.underlying26 hi010 A0 l0.length c0 (ji5) (of_decide_eq_true (by first | (with_reducible assumption) | assumption)) q10 hroom10; have hr10 := Kd.C_take (m := ((ji5) : Int).toNat) hC10 (by omega); have hy10 : y280.length = ((ji5) : Int).toNat := (by rw [Ny280.out, List.length_take]; omega); rw [← Ny280.out] at hr10; rw [← hy10] at hcut10; have HR283 := Aside0.mk hr10; have HC283 := Aside0.mk (show y280.length ≤ c0 from by omega); clear hr10 hC10 hroom10 hi010 hsz10; have KY10 := Aside0.mk hy10; clear hy10; replace q10 := eq_true q10)))
      (try simp only [Act.put, List.setIfInBounds_toArray, List.set_cons_zero, List.set_cons_succ])
      go_cut [56] (fun v56 wc => ∃ (kq : Nat) (x56_7 : Bool), v56 = .bool x56_7 ∧ Aside0 (purflinglaw07_GridSlots.j0 kq y280 a1 a2 t279 x56_7 = some r) ∧ Aside0 (kq ≤ k) ∧ Aside0 (Below w.heap.size w wc))
      case first =>
        have H := HC8.out
        clear HC8
        by_cases c11 : a1 > 0
        · rw [if_pos c11] at H
          have c11b0 : decide (0 < a1) = true := decide_eq_true c11
          clear c11
          (first | rw [c11b0] | (simp only [i64_w, i32_w]; rw [c11b0]) | skip)
          by_cases c12 : a2 > 0
          · rw [if_pos c12] at H
            have c12b0 : decide (0 < a2) = true := decide_eq_true c12
            clear c12
            by_cases c13 : a1 ≤ 65536
            · rw [if_pos c13] at H
              have c13b0 : decide (a1 ≤ 65536) = true := decide_eq_true c13
              clear c13
              by_cases c14 : a2 ≤ 10000
              · rw [if_pos c14] at H
                have c14b0 : decide (a2 ≤ 10000) = true := decide_eq_true c14
                clear c14
                by_cases c15 : (wrap64 (a1 * a2)) > 10000
                · rw [if_pos c15] at H
                  have c15b0 : decide (10000 < (wrap64 (a1 * a2))) = true := decide_eq_true c15
                  clear c15
                  by_cases c16 : (wrap64 (a1 * a2)) ≤ 1000000
                  · rw [if_pos c16] at H
                    have c16b0 : decide ((wrap64 (a1 * a2)) ≤ 1000000) = true := decide_eq_true c16
                    clear c16
                    have H' := Aside0.mk H
                    clear H
                    go_wp2
                    repeat (go_quiet (fail); try go_wp2)
                    go_meet
                    case rel => exact ⟨_, (true), (by first | rfl | (simp; done) | (simp [*]; done)), H', ⟨by first | omega | exact Nat.le_refl _⟩, ⟨by repeat (first | (with_reducible first | exact HB.out | apply below_alloc | apply pw_below_drewN | apply below_drew1) | exact HB.out)⟩⟩
                  · rw [if_neg c16] at H
                    have c16b0 : decide ((wrap64 (a1 * a2)) ≤ 1000000) = false := decide_eq_false c16
                    clear c16
                    by_cases c17 : a1 > 2000
                    · rw [if_pos c17] at H
                      have c17b0 : decide (2000 < a1) = true := decide_eq_true c17
                      clear c17
                      have H' := Aside0.mk H
                      clear H
                      go_wp2
                      repeat (go_quiet (fail); try go_wp2)
                      go_meet
                      case rel => exact ⟨_, (decide (a1 ≤ 65536)), (by first | rfl | (simp; done) | (simp [*]; done)), H', ⟨by first | omega | exact Nat.le_refl _⟩, ⟨by repeat (first | (with_reducible first | exact HB.out | apply below_alloc | apply pw_below_drewN | apply below_drew1) | exact HB.out)⟩⟩
                    · rw [if_neg c17] at H
                      have c17b0 : decide (2000 < a1) = false := decide_eq_false c17
                      clear c17
                      have H' := Aside0.mk H
                      clear H
                      go_wp2
                      repeat (go_quiet (fail); try go_wp2)
                      go_meet
                      case rel => exact ⟨_, (false), (by first | rfl | (simp; done) | (simp [*]; done)), H', ⟨by first | omega | exact Nat.le_refl _⟩, ⟨by repeat (first | (with_reducible first | exact HB.out | apply below_alloc | apply pw_below_drewN | apply below_drew1) | exact HB.out)⟩⟩
                · rw [if_neg c15] at H
                  have c15b0 : decide (10000 < (wrap64 (a1 * a2))) = false := decide_eq_false c15
                  clear c15
                  by_cases c18 : a1 > 2000
                  · rw [if_pos c18] at H
                    have c18b0 : decide (2000 < a1) = true := decide_eq_true c18
                    clear c18
                    have H' := Aside0.mk H
                    clear H
                    go_wp2
                    repeat (go_quiet (fail); try go_wp2)
                    go_meet
                    case rel => exact ⟨_, (decide (a1 ≤ 65536)), (by first | rfl | (simp; done) | (simp [*]; done)), H', ⟨by first | omega | exact Nat.le_refl _⟩, ⟨by repeat (first | (with_reducible first | exact HB.out | apply below_alloc | apply pw_below_drewN | apply below_drew1) | exact HB.out)⟩⟩
                  · rw [if_neg c18] at H
                    have c18b0 : decide (2000 < a1) = false := decide_eq_false c18
                    clear c18
                    have H' := Aside0.mk H
                    clear H
                    go_wp2
                    repeat (go_quiet (fail); try go_wp2)
                    go_meet
                    case rel => exact ⟨_, (false), (by first | rfl | (simp; done) | (simp [*]; done)), H', ⟨by first | omega | exact Nat.le_refl _⟩, ⟨by repeat (first | (with_reducible first | exact HB.out | apply below_alloc | apply pw_below_drewN | apply below_drew1) | exact HB.out)⟩⟩
              · rw [if_neg c14] at H
                have c14b0 : decide (a2 ≤ 10000) = false := decide_eq_false c14
                clear c14
                by_cases c19 : a1 > 2000
                · rw [if_pos c19] at H
                  have c19b0 : decide (2000 < a1) = true := decide_eq_true c19
                  clear c19
                  have H' := Aside0.mk H
                  clear H
                  go_wp2
                  repeat (go_quiet (fail); try go_wp2)
                  go_meet
                  case rel => exact ⟨_, (decide (a1 ≤ 65536)), (by first | rfl | (simp; done) | (simp [*]; done)), H', ⟨by first | omega | exact Nat.le_refl _⟩, ⟨by repeat (first | (with_reducible first | exact HB.out | apply below_alloc | apply pw_below_drewN | apply below_drew1) | exact HB.out)⟩⟩
                · rw [if_neg c19] at H
                  have c19b0 : decide (2000 < a1) = false := decide_eq_false c19
                  clear c19
                  have H' := Aside0.mk H
                  clear H
                  go_wp2
                  repeat (go_quiet (fail); try go_wp2)
                  go_meet
                  case rel => exact ⟨_, (false), (by first | rfl | (simp; done) | (simp [*]; done)), H', ⟨by first | omega | exact Nat.le_refl _⟩, ⟨by repeat (first | (with_reducible first | exact HB.out | apply below_alloc | apply pw_below_drewN | apply below_drew1) | exact HB.out)⟩⟩
            · rw [if_neg c13] at H
              have c13b0 : decide (a1 ≤ 65536) = false := decide_eq_false c13
              clear c13
              by_cases c20 : a1 > 2000
              · rw [if_pos c20] at H
                have c20b0 : decide (2000 < a1) = true := decide_eq_true c20
                clear c20
                have H' := Aside0.mk H
                clear H
                go_wp2
                repeat (go_quiet (fail); try go_wp2)
                go_meet
                case rel => exact ⟨_, (decide (a1 ≤ 65536)), (by first | rfl | (simp; done) | (simp [*]; done)), H', ⟨by first | omega | exact Nat.le_refl _⟩, ⟨by repeat (first | (with_reducible first | exact HB.out | apply below_alloc | apply pw_below_drewN | apply below_drew1) | exact HB.out)⟩⟩
              · rw [if_neg c20] at H
                have c20b0 : decide (2000 < a1) = false := decide_eq_false c20
                clear c20
                have H' := Aside0.mk H
                clear H
                go_wp2
                repeat (go_quiet (fail); try go_wp2)
                go_meet
                case rel => exact ⟨_, (false), (by first | rfl | (simp; done) | (simp [*]; done)), H', ⟨by first | omega | exact Nat.le_refl _⟩, ⟨by repeat (first | (with_reducible first | exact HB.out | apply below_alloc | apply pw_below_drewN | apply below_drew1) | exact HB.out)⟩⟩
          · rw [if_neg c12] at H
            have c12b0 : decide (0 < a2) = false := decide_eq_false c12
            clear c12
            by_cases c21 : a1 > 2000
            · rw [if_pos c21] at H
              have c21b0 : decide (2000 < a1) = true := decide_eq_true c21
              clear c21
              have H' := Aside0.mk H
              clear H
              go_wp2
              repeat (go_quiet (fail); try go_wp2)
              go_meet
              case rel => exact ⟨_, (decide (a1 ≤ 65536)), (by first | rfl | (simp; done) | (simp [*]; done)), H', ⟨by first | omega | exact Nat.le_refl _⟩, ⟨by repeat (first | (with_reducible first | exact HB.out | apply below_alloc | apply pw_below_drewN | apply below_drew1) | exact HB.out)⟩⟩
            · rw [if_neg c21] at H
              have c21b0 : decide (2000 < a1) = false := decide_eq_false c21
              clear c21
              have H' := Aside0.mk H
              clear H
              go_wp2
              repeat (go_quiet (fail); try go_wp2)
              go_meet
              case rel => exact ⟨_, (false), (by first | rfl | (simp; done) | (simp [*]; done)), H', ⟨by first | omega | exact Nat.le_refl _⟩, ⟨by repeat (first | (with_reducible first | exact HB.out | apply below_alloc | apply pw_below_drewN | apply below_drew1) | exact HB.out)⟩⟩
        · rw [if_neg c11] at H
          have c11b0 : decide (0 < a1) = false := decide_eq_false c11
          clear c11
          (first | rw [c11b0] | (simp only [i64_w, i32_w]; rw [c11b0]) | skip)
          by_cases c22 : a1 > 2000
          · rw [if_pos c22] at H
            have c22b0 : decide (2000 < a1) = true := decide_eq_true c22
            clear c22
            have H' := Aside0.mk H
            clear H
            go_wp2
            repeat (go_quiet (fail); try go_wp2)
            go_meet
            case rel => exact ⟨_, (decide (a1 ≤ 65536)), (by first | rfl | (simp; done) | (simp [*]; done)), H', ⟨by first | omega | exact Nat.le_refl _⟩, ⟨by repeat (first | (with_reducible first | exact HB.out | apply below_alloc | apply pw_below_drewN | apply below_drew1) | exact HB.out)⟩⟩
          · rw [if_neg c22] at H
            have c22b0 : decide (2000 < a1) = false := decide_eq_false c22
            clear c22
            have H' := Aside0.mk H
            clear H
            go_wp2
            repeat (go_quiet (fail); try go_wp2)
            go_meet
            case rel => exact ⟨_, (false), (by first | rfl | (simp; done) | (simp [*]; done)), H', ⟨by first | omega | exact Nat.le_refl _⟩, ⟨by repeat (first | (with_reducible first | exact HB.out | apply below_alloc | apply pw_below_drewN | apply below_drew1) | exact HB.out)⟩⟩
      case rest =>
        clear HC8
        try clear c1
        try clear q1
        try clear c2
        try clear p2
        try clear c6
        try clear c6b0
        try clear c6b1
        try clear p6
        try clear c7
        try clear c7b0
        try clear c7b1
        try clear q10
        try clear c11
        try clear c11b0
        try clear c12
        try clear c12b0
        try clear c13
        try clear c13b0
        try clear c14
        try clear c14b0
        try clear c15
        try clear c15b0
        try clear c16
        try clear c16b0
        try clear c17
        try clear c17b0
        try clear c18
        try clear c18b0
        try clear c19
        try clear c19b0
        try clear c20
        try clear c20b0
        try clear c21
        try clear c21b0
        try clear c22
        try clear c22b0
        try clear q10
        obtain ⟨kq, x56_7, rfl, HA, HJ7, HB⟩ := hcut
        cases kq with
        | zero => exact absurd HA.out (by simp [purflinglaw07_GridSlots.j0])
        | succ kj7 =>
          have H := HA.out
          clear HA
          simp only [purflinglaw07_GridSlots.j0] at H
          by_cases c23 : x56_7 = true
          · subst c23
            have H1 : (some t279) = some r := by rw [if_pos rfl] at H; exact H
            clear H
            have H := H1
            clear H1
            obtain rfl := Option.some.inj H
            go_wp2
            repeat (go_quiet (fail); try go_wp2)
            go_ret
            exact ⟨by first | rfl | (simp [errW_none, errW_some] <;> rfl) | (simp only [← hji5]; first | rfl | (simp [errW_none, errW_some] <;> rfl)) | (simp [*, errW_none, errW_some] <;> rfl), by repeat (first | (with_reducible first | exact HB.out | apply below_alloc | apply pw_below_drewN | apply below_drew1) | exact HB.out)⟩
          · replace c23 := Bool.eq_false_iff.mpr c23
            subst c23
            have H1 : ((grid_Slots.f y280 a1 a2).bind fun bt284 => ((purflingref07_Slots.f kj7 y280 a1 a2).bind fun bt288 => ((grid_Empty.f y280 a1 a2).bind fun bt292 => (if bt284.2 = bt288.2 then (if bt284.2 = bt292.2 then (purflinglaw07_GridSlots.j1 kj7 t279 bt284.1 bt288.1 bt292.1 ((bt284.1.length : Int) != (bt288.1.length : Int))) else (purflinglaw07_GridSlots.j1 kj7 t279 bt284.1 bt288.1 bt292.1 true)) else (purflinglaw07_GridSlots.j1 kj7 t279 bt284.1 bt288.1 bt292.1 true))))) = some r := by rw [if_neg (show ¬ (false = true) by decide)] at H; exact H
            clear H
            have H := H1
            clear H1
            replace H := Option.bind_eq_some_iff.mp H
            obtain ⟨⟨t284, t285⟩, A240, H⟩ := H
            replace H : ((purflingref07_Slots.f kj7 y280 a1 a2).bind fun bt288 => ((grid_Empty.f y280 a1 a2).bind fun bt292 => (if t285 = bt288.2 then (if t285 = bt292.2 then (purflinglaw07_GridSlots.j1 kj7 t279 t284 bt288.1 bt292.1 ((t284.length : Int) != (bt288.1.length : Int))) else (purflinglaw07_GridSlots.j1 kj7 t279 t284 bt288.1 bt292.1 true)) else (purflinglaw07_GridSlots.j1 kj7 t279 t284 bt288.1 bt292.1 true)))) = some r := H
            have A24 := Aside0.mk A240
            clear A240
            replace H := Option.bind_eq_some_iff.mp H
            obtain ⟨⟨t288, t289⟩, A250, H⟩ := H
            replace H : ((grid_Empty.f y280 a1 a2).bind fun bt292 => (if t285 = t289 then (if t285 = bt292.2 then (purflinglaw07_GridSlots.j1 kj7 t279 t284 t288 bt292.1 ((t284.length : Int) != (t288.length : Int))) else (purflinglaw07_GridSlots.j1 kj7 t279 t284 t288 bt292.1 true)) else (purflinglaw07_GridSlots.j1 kj7 t279 t284 t288 bt292.1 true))) = some r := H
            have A25 := Aside0.mk A250
            clear A250
            replace H := Option.bind_eq_some_iff.mp H
            obtain ⟨⟨t292, t293⟩, A260, H⟩ := H
            replace H : (if t285 = t289 then (if t285 = t293 then (purflinglaw07_GridSlots.j1 kj7 t279 t284 t288 t292 ((t284.length : Int) != (t288.length : Int))) else (purflinglaw07_GridSlots.j1 kj7 t279 t284 t288 t292 true)) else (purflinglaw07_GridSlots.j1 kj7 t279 t284 t288 t292 true)) = some r := H
            have A26 := Aside0.mk A260
            clear A260
            have HC27 := Aside0.mk H
            clear H
            go_upto_region 8 with (first | (go_at_call 22; (with_reducible refine (grid_Slots.calls _ _ y280 a1 a2 t284 t285 _ ?side1 ?side2 A24.out).mono ?_); (case side1 => repeat (first | exact (Kd.C_below HR283.out HB.out) | (with_reducible refine Kd.C_alloc ?_ _) | (with_reducible refine Kd.C_drewN ?_ _) | (with_reducible refine Kd.C_drew ?_))); (case side2 => exact HC283.out); rintro e w28 ⟨v286, rfl, ho0, hb⟩; have n0_ := Aside0.mk (Kd.S_lower ho0 (below_size (by repeat (first | (with_reducible first | exact HB.out | apply below_alloc | apply pw_below_drewN | apply below_drew1) | exact HB.out)))); have n1_ := Aside0.mk (below_step (by repeat (first | (with_reducible first | exact HB.out | apply below_alloc | apply pw_below_drewN | apply below_drew1) | exact HB.out)) hb); clear HB; have HO287 := n0_; have HB := n1_; clear n0_ n1_; (try clear hb); (try clear hb2); (try clear hk); (try clear hi); (try clear ho0)) | (go_at_call 23; (with_reducible refine (purflingref07_Slots.calls kj7 _ _ y280 a1 a2 t288 t289 _ ?side1 ?side2 A25.out).mono ?_); (case side1 => repeat (first | exact (Kd.C_below HR283.out HB.out) | (with_reducible refine Kd.C_alloc ?_ _) | (with_reducible refine Kd.C_drewN ?_ _) | (with_reducible refine Kd.C_drew ?_))); (case side2 => exact HC283.out); rintro e w29 ⟨v290, rfl, ho0, hb⟩; have n0_ := Aside0.mk (Kd.S_elder' (by (with_reducible repeat (first | apply Kd.S_alloc | apply Kd.S_drewN | apply Kd.S_drew)); exact HO287.out) (Kd.S_base ho0) hb); have n1_ := Aside0.mk (Kd.S_lower (Kd.S_new' ho0 (Kd.S_lt (by (with_reducible repeat (first | apply Kd.S_alloc | apply Kd.S_drewN | apply Kd.S_drew)); exact HO287.out))) (below_size (by repeat (first | (with_reducible first | exact HB.out | apply below_alloc | apply pw_below_drewN | apply below_drew1) | exact HB.out)))); have n2_ := Aside0.mk (below_step (by repeat (first | (with_reducible first | exact HB.out | apply below_alloc | apply pw_below_drewN | apply below_drew1) | exact HB.out)) hb); clear HO287; clear HB; have HO287 := n0_; have HO291 := n1_; have HB := n2_; clear n0_ n1_ n2_; (try clear hb); (try clear hb2); (try clear hk); (try clear hi); (try clear ho0)) | (go_at_call 24; (with_reducible refine (grid_Empty.calls _ _ y280 a1 a2 t292 t293 _ ?side1 ?side2 A26.out).mono ?_); (case side1 => repeat (first | exact (Kd.C_below HR283.out HB.out) | (with_reducible refine Kd.C_alloc ?_ _) | (with_reducible refine Kd.C_drewN ?_ _) | (with_reducible refine Kd.C_drew ?_))); (case side2 => exact HC283.out); rintro e w30 ⟨v294, rfl, ho0, hb⟩; have n0_ := Aside0.mk (Kd.S_below (by (with_reducible repeat (first | apply Kd.S_alloc | apply Kd.S_drewN | apply Kd.S_drew)); exact HO287.out) hb); have n1_ := Aside0.mk (Kd.S_below (by (with_reducible repeat (first | apply Kd.S_alloc | apply Kd.S_drewN | apply Kd.S_drew)); exact HO291.out) hb); have n2_ := Aside0.mk (Kd.R_lower ho0 (below_size (by repeat (first | (with_reducible first | exact HB.out | apply below_alloc | apply pw_below_drewN | apply below_drew1) | exact HB.out)))); have n3_ := Aside0.mk (below_step (by repeat (first | (with_reducible first | exact HB.out | apply below_alloc | apply pw_below_drewN | apply below_drew1) | exact HB.out)) hb); clear HO287; clear HO291; clear HB; have HO287 := n0_; have HO291 := n1_; have HO295 := n2_; have HB := n3_; clear n0_ n1_ n2_ n3_; (try clear hb); (try clear hb2); (try clear hk); (try clear hi); (try clear ho0)))
            repeat (go_quiet (first | (go_at_call 22; (with_reducible refine (grid_Slots.calls _ _ y280 a1 a2 t284 t285 _ ?side1 ?side2 A24.out).mono ?_); (case side1 => repeat (first | exact (Kd.C_below HR283.out HB.out) | (with_reducible refine Kd.C_alloc ?_ _) | (with_reducible refine Kd.C_drewN ?_ _) | (with_reducible refine Kd.C_drew ?_))); (case side2 => exact HC283.out); rintro e w28 ⟨v286, rfl, ho0, hb⟩; have n0_ := Aside0.mk (Kd.S_lower ho0 (below_size (by repeat (first | (with_reducible first | exact HB.out | apply below_alloc | apply pw_below_drewN | apply below_drew1) | exact HB.out)))); have n1_ := Aside0.mk (below_step (by repeat (first | (with_reducible first | exact HB.out | apply below_alloc | apply pw_below_drewN | apply below_drew1) | exact HB.out)) hb); clear HB; have HO287 := n0_; have HB := n1_; clear n0_ n1_; (try clear hb); (try clear hb2); (try clear hk); (try clear hi); (try clear ho0)) | (go_at_call 23; (with_reducible refine (purflingref07_Slots.calls kj7 _ _ y280 a1 a2 t288 t289 _ ?side1 ?side2 A25.out).mono ?_); (case side1 => repeat (first | exact (Kd.C_below HR283.out HB.out) | (with_reducible refine Kd.C_alloc ?_ _) | (with_reducible refine Kd.C_drewN ?_ _) | (with_reducible refine Kd.C_drew ?_))); (case side2 => exact HC283.out); rintro e w29 ⟨v290, rfl, ho0, hb⟩; have n0_ := Aside0.mk (Kd.S_elder' (by (with_reducible repeat (first | apply Kd.S_alloc | apply Kd.S_drewN | apply Kd.S_drew)); exact HO287.out) (Kd.S_base ho0) hb); have n1_ := Aside0.mk (Kd.S_lower (Kd.S_new' ho0 (Kd.S_lt (by (with_reducible repeat (first | apply Kd.S_alloc | apply Kd.S_drewN | apply Kd.S_drew)); exact HO287.out))) (below_size (by repeat (first | (with_reducible first | exact HB.out | apply below_alloc | apply pw_below_drewN | apply below_drew1) | exact HB.out)))); have n2_ := Aside0.mk (below_step (by repeat (first | (with_reducible first | exact HB.out | apply below_alloc | apply pw_below_drewN | apply below_drew1) | exact HB.out)) hb); clear HO287; clear HB; have HO287 := n0_; have HO291 := n1_; have HB := n2_; clear n0_ n1_ n2_; (try clear hb); (try clear hb2); (try clear hk); (try clear hi); (try clear ho0)) | (go_at_call 24; (with_reducible refine (grid_Empty.calls _ _ y280 a1 a2 t292 t293 _ ?side1 ?side2 A26.out).mono ?_); (case side1 => repeat (first | exact (Kd.C_below HR283.out HB.out) | (with_reducible refine Kd.C_alloc ?_ _) | (with_reducible refine Kd.C_drewN ?_ _) | (with_reducible refine Kd.C_drew ?_))); (case side2 => exact HC283.out); rintro e w30 ⟨v294, rfl, ho0, hb⟩; have n0_ := Aside0.mk (Kd.S_below (by (with_reducible repeat (first | apply Kd.S_alloc | apply Kd.S_drewN | apply Kd.S_drew)); exact HO287.out) hb); have n1_ := Aside0.mk (Kd.S_below (by (with_reducible repeat (first | apply Kd.S_alloc | apply Kd.S_drewN | apply Kd.S_drew)); exact HO291.out) hb); have n2_ := Aside0.mk (Kd.R_lower ho0 (below_size (by repeat (first | (with_reducible first | exact HB.out | apply below_alloc | apply pw_below_drewN | apply below_drew1) | exact HB.out)))); have n3_ := Aside0.mk (below_step (by repeat (first | (with_reducible first | exact HB.out | apply below_alloc | apply pw_below_drewN | apply below_drew1) | exact HB.out)) hb); clear HO287; clear HO291; clear HB; have HO287 := n0_; have HO291 := n1_; have HO295 := n2_; have HB := n3_; clear n0_ n1_ n2_ n3_; (try clear hb); (try clear hb2); (try clear hk); (try clear hi); (try clear ho0))); go_upto_region 8 with (first | (go_at_call 22; (with_reducible refine (grid_Slots.calls _ _ y280 a1 a2 t284 t285 _ ?side1 ?side2 A24.out).mono ?_); (case side1 => repeat (first | exact (Kd.C_below HR283.out HB.out) | (with_reducible refine Kd.C_alloc ?_ _) | (with_reducible refine Kd.C_drewN ?_ _) | (with_reducible refine Kd.C_drew ?_))); (case side2 => exact HC283.out); rintro e w28 ⟨v286, rfl, ho0, hb⟩; have n0_ := Aside0.mk (Kd.S_lower ho0 (below_size (by repeat (first | (with_reducible first | exact HB.out | apply below_alloc | apply pw_below_drewN | apply below_drew1) | exact HB.out)))); have n1_ := Aside0.mk (below_step (by repeat (first | (with_reducible first | exact HB.out | apply below_alloc | apply pw_below_drewN | apply below_drew1) | exact HB.out)) hb); clear HB; have HO287 := n0_; have HB := n1_; clear n0_ n1_; (try clear hb); (try clear hb2); (try clear hk); (try clear hi); (try clear ho0)) | (go_at_call 23; (with_reducible refine (purflingref07_Slots.calls kj7 _ _ y280 a1 a2 t288 t289 _ ?side1 ?side2 A25.out).mono ?_); (case side1 => repeat (first | exact (Kd.C_below HR283.out HB.out) | (with_reducible refine Kd.C_alloc ?_ _) | (with_reducible refine Kd.C_drewN ?_ _) | (with_reducible refine Kd.C_drew ?_))); (case side2 => exact HC283.out); rintro e w29 ⟨v290, rfl, ho0, hb⟩; have n0_ := Aside0.mk (Kd.S_elder' (by (with_reducible repeat (first | apply Kd.S_alloc | apply Kd.S_drewN | apply Kd.S_drew)); exact HO287.out) (Kd.S_base ho0) hb); have n1_ := Aside0.mk (Kd.S_lower (Kd.S_new' ho0 (Kd.S_lt (by (with_reducible repeat (first | apply Kd.S_alloc | apply Kd.S_drewN | apply Kd.S_drew)); exact HO287.out))) (below_size (by repeat (first | (with_reducible first | exact HB.out | apply below_alloc | apply pw_below_drewN | apply below_drew1) | exact HB.out)))); have n2_ := Aside0.mk (below_step (by repeat (first | (with_reducible first | exact HB.out | apply below_alloc | apply pw_below_drewN | apply below_drew1) | exact HB.out)) hb); clear HO287; clear HB; have HO287 := n0_; have HO291 := n1_; have HB := n2_; clear n0_ n1_ n2_; (try clear hb); (try clear hb2); (try clear hk); (try clear hi); (try clear ho0)) | (go_at_call 24; (with_reducible refine (grid_Empty.calls _ _ y280 a1 a2 t292 t293 _ ?side1 ?side2 A26.out).mono ?_); (case side1 => repeat (first | exact (Kd.C_below HR283.out HB.out) | (with_reducible refine Kd.C_alloc ?_ _) | (with_reducible refine Kd.C_drewN ?_ _) | (with_reducible refine Kd.C_drew ?_))); (case side2 => exact HC283.out); rintro e w30 ⟨v294, rfl, ho0, hb⟩; have n0_ := Aside0.mk (Kd.S_below (by (with_reducible repeat (first | apply Kd.S_alloc | apply Kd.S_drewN | apply Kd.S_drew)); exact HO287.out) hb); have n1_ := Aside0.mk (Kd.S_below (by (with_reducible repeat (first | apply Kd.S_alloc | apply Kd.S_drewN | apply Kd.S_drew)); exact HO291.out) hb); have n2_ := Aside0.mk (Kd.R_lower ho0 (below_size (by repeat (first | (with_reducible first | exact HB.out | apply below_alloc | apply pw_below_drewN | apply below_drew1) | exact HB.out)))); have n3_ := Aside0.mk (below_step (by repeat (first | (with_reducible first | exact HB.out | apply below_alloc | apply pw_below_drewN | apply below_drew1) | exact HB.out)) hb); clear HO287; clear HO291; clear HB; have HO287 := n0_; have HO291 := n1_; have HO295 := n2_; have HB := n3_; clear n0_ n1_ n2_ n3_; (try clear hb); (try clear hb2); (try clear hk); (try clear hi); (try clear ho0))))
            (try simp only [Act.put, List.setIfInBounds_toArray, List.set_cons_zero, List.set_cons_succ])
            go_cut [93] (fun v93 wc => ∃ (kq : Nat) (x93_26 : Bool), v93 = .bool x93_26 ∧ Aside0 (purflinglaw07_GridSlots.j1 kq t279 t284 t288 t292 x93_26 = some r) ∧ Aside0 (kq ≤ kj7) ∧ Aside0 (Kd.S (Kd.slice 3 (Kd.int .i64)) 23 wc w.heap.size (fun k_ => some k_ ≠ (v290 : Value).ownBlock) v286 t284) ∧ Aside0 (Kd.S (Kd.slice 3 (Kd.int .i64)) 23 wc w.heap.size (fun k_ => some k_ ≠ (v286 : Value).ownBlock) v290 t288) ∧ Aside0 (Kd.R k45 45 wc w.heap.size (fun _ => True) v294 t292) ∧ Aside0 (Below w.heap.size w wc))
            case first =>
              have H := HC27.out
              clear HC27
              by_cases c31 : t285 = t289
              · rw [if_pos c31] at H
                have c31b0 : (t285 == t289) = true := beq_iff_eq.mpr c31
                have c31b1 : (t285 != t289) = false := bne_eq_false_iff_eq.mpr c31
                clear c31
                (first | rw [c31b0] | (simp only [i64_w, i32_w]; rw [c31b0]) | skip)
                by_cases c32 : t285 = t293
                · rw [if_pos c32] at H
                  have c32b0 : (t285 == t293) = true := beq_iff_eq.mpr c32
                  have c32b1 : (t285 != t293) = false := bne_eq_false_iff_eq.mpr c32
                  clear c32
                  have H' := Aside0.mk H
                  clear H
                  obtain ⟨Ao33, co33, eo33⟩ := Kd.S_slice HO287.out
                  subst eo33
                  obtain ⟨Ao34, co34, eo34⟩ := Kd.S_slice HO291.out
                  subst eo34
                  go_wp2
                  repeat (go_quiet (fail); try go_wp2)
                  go_meet
                  case rel => exact ⟨_, (((t284.length : Int) != (t288.length : Int))), (by first | rfl | (simp; done) | (simp [*]; done)), H', ⟨by have := HJ7.out; first | omega | exact Nat.le_refl _⟩, ⟨by (with_reducible repeat (first | apply Kd.S_alloc | apply Kd.S_drewN | apply Kd.S_drew)); exact Kd.S_mono HO287.out (fun _ hk => hk.2)⟩, ⟨by (with_reducible repeat (first | apply Kd.S_alloc | apply Kd.S_drewN | apply Kd.S_drew)); exact Kd.S_mono HO291.out (fun _ hk => hk.2)⟩, ⟨by (with_reducible repeat (first | apply Kd.R_alloc | apply Kd.R_drewN | apply Kd.R_drew)); exact HO295.out⟩, ⟨by repeat (first | (with_reducible first | exact HB.out | apply below_alloc | apply pw_below_drewN | apply below_drew1) | exact HB.out)⟩⟩
                · rw [if_neg c32] at H
                  have c32b0 : (t285 == t293) = false := beq_eq_false_iff_ne.mpr c32
                  have c32b1 : (t285 != t293) = true := bne_iff_ne.mpr c32
                  have H' := Aside0.mk H
                  clear H
                  go_wp2
                  repeat (go_quiet (fail); try go_wp2)
                  go_meet
                  case rel => exact ⟨_, (true), (by first | rfl | (simp; done) | (simp [*]; done)), H', ⟨by have := HJ7.out; first | omega | exact Nat.le_refl _⟩, ⟨by (with_reducible repeat (first | apply Kd.S_alloc | apply Kd.S_drewN | apply Kd.S_drew)); exact Kd.S_mono HO287.out (fun _ hk => hk.2)⟩, ⟨by (with_reducible repeat (first | apply Kd.S_alloc | apply Kd.S_drewN | apply Kd.S_drew)); exact Kd.S_mono HO291.out (fun _ hk => hk.2)⟩, ⟨by (with_reducible repeat (first | apply Kd.R_alloc | apply Kd.R_drewN | apply Kd.R_drew)); exact HO295.out⟩, ⟨by repeat (first | (with_reducible first | exact HB.out | apply below_alloc | apply pw_below_drewN | apply below_drew1) | exact HB.out)⟩⟩
              · rw [if_neg c31] at H
                have c31b0 : (t285 == t289) = false := beq_eq_false_iff_ne.mpr c31
                have c31b1 : (t285 != t289) = true := bne_iff_ne.mpr c31
                (first | rw [c31b0] | (simp only [i64_w, i32_w]; rw [c31b0]) | skip)
                have H' := Aside0.mk H
                clear H
                go_wp2
                repeat (go_quiet (fail); try go_wp2)
                go_meet
                case rel => exact ⟨_, (true), (by first | rfl | (simp; done) | (simp [*]; done)), H', ⟨by have := HJ7.out; first | omega | exact Nat.le_refl _⟩, ⟨by (with_reducible repeat (first | apply Kd.S_alloc | apply Kd.S_drewN | apply Kd.S_drew)); exact Kd.S_mono HO287.out (fun _ hk => hk.2)⟩, ⟨by (with_reducible repeat (first | apply Kd.S_alloc | apply Kd.S_drewN | apply Kd.S_drew)); exact Kd.S_mono HO291.out (fun _ hk => hk.2)⟩, ⟨by (with_reducible repeat (first | apply Kd.R_alloc | apply Kd.R_drewN | apply Kd.R_drew)); exact HO295.out⟩, ⟨by repeat (first | (with_reducible first | exact HB.out | apply below_alloc | apply pw_below_drewN | apply below_drew1) | exact HB.out)⟩⟩
            case rest =>
              clear HC27
              try clear c1
              try clear q1
              try clear c2
              try clear p2
              try clear c3
              try clear c6
              try clear c6b0
              try clear c6b1
              try clear p6
              try clear c7
              try clear c7b0
              try clear c7b1
              try clear q10
              try clear c11
              try clear c11b0
              try clear c12
              try clear c12b0
              try clear c13
              try clear c13b0
              try clear c14
              try clear c14b0
              try clear c15
              try clear c15b0
              try clear c16
              try clear c16b0
              try clear c17
              try clear c17b0
              try clear c18
              try clear c18b0
              try clear c19
              try clear c19b0
              try clear c20
              try clear c20b0
              try clear c21
              try clear c21b0
              try clear c22
              try clear c22b0
              try clear c23
              try clear c31
              try clear c31b0
              try clear c31b1
              try clear c32
              try clear c32b0
              try clear c32b1
              try clear p2
              try clear p6
              try clear q1
              try clear q10
              obtain ⟨kq, x93_26, rfl, HA, HJ26, HO_8, HO_10, HO_12, HB⟩ := hcut
              cases kq with
              | zero => exact absurd HA.out (by simp [purflinglaw07_GridSlots.j1])
              | succ kj26 =>
                have H := HA.out
                clear HA
                simp only [purflinglaw07_GridSlots.j1] at H
                by_cases c35 : x93_26 = true
                · subst c35
                  have H1 : (some false) = some r := by rw [if_pos rfl] at H; exact H
                  clear H
                  have H := H1
                  clear H1
                  obtain rfl := Option.some.inj H
                  go_wp2
                  repeat (go_quiet (fail); try go_wp2)
                  go_ret
                  exact ⟨by first | rfl | (simp [errW_none, errW_some] <;> rfl) | (simp only [← hji5]; first | rfl | (simp [errW_none, errW_some] <;> rfl)) | (simp [*, errW_none, errW_some] <;> rfl), by repeat (first | (with_reducible first | exact HB.out | apply below_alloc | apply pw_below_drewN | apply below_drew1) | exact HB.out)⟩
                · replace c35 := Bool.eq_false_iff.mpr c35
                  subst c35
                  have H1 : (purflinglaw07_GridSlots.l0 kj26 t279 t284 t288 t292 0 0) = some r := by rw [if_neg (show ¬ (false = true) by decide)] at H; exact H
                  clear H
                  have H := H1
                  clear H1
                  have H' := Aside0.mk H
                  clear H
                  go_wp2
                  repeat (go_quiet (fail); try go_wp2)
                  go_loopg [14, 15] kj26 (fun kq v14 v15 w' => ∃ (x14_3 : Int) (x15_3 : Int), v14 = .int .i64 x14_3 ∧ v15 = .int .i64 x15_3 ∧ Aside0 (purflinglaw07_GridSlots.l0 kq t279 t284 t288 t292 x14_3 x15_3 = some r) ∧ Aside0 (kq ≤ kj26) ∧ Aside0 (Kd.S (Kd.slice 3 (Kd.int .i64)) 23 w' w.heap.size (fun k_ => some k_ ≠ (v290 : Value).ownBlock) v286 t284) ∧ Aside0 (Kd.S (Kd.slice 3 (Kd.int .i64)) 23 w' w.heap.size (fun k_ => some k_ ≠ (v286 : Value).ownBlock) v290 t288) ∧ Aside0 (Kd.R k45 45 w' w.heap.size (fun _ => True) v294 t292) ∧ Aside0 (Below w.heap.size w w'))
                  case atStart => exact ⟨(0), (0), (by first | rfl | (simp; done) | (simp [*]; done)), (by first | rfl | (simp; done) | (simp [*]; done)), H', ⟨Nat.le_refl _⟩, ⟨by (with_reducible repeat (first | apply Kd.S_alloc | apply Kd.S_drewN | apply Kd.S_drew)); exact HO_8.out⟩, ⟨by (with_reducible repeat (first | apply Kd.S_alloc | apply Kd.S_drewN | apply Kd.S_drew)); exact HO_10.out⟩, ⟨by (with_reducible repeat (first | apply Kd.R_alloc | apply Kd.R_drewN | apply Kd.R_drew)); exact HO_12.out⟩, ⟨by repeat (first | (with_reducible first | exact HB.out | apply below_alloc | apply pw_below_drewN | apply below_drew1) | exact HB.out)⟩⟩
                  case round =>
                    clear H'
                    try clear c1
                    try clear q1
                    try clear c2
                    try clear p2
                    try clear c3
                    try clear c6
                    try clear c6b0
                    try clear c6b1
                    try clear p6
                    try clear c7
                    try clear c7b0
                    try clear c7b1
                    try clear q10
                    try clear c11
                    try clear c11b0
                    try clear c12
                    try clear c12b0
                    try clear c13
                    try clear c13b0
                    try clear c14
                    try clear c14b0
                    try clear c15
                    try clear c15b0
                    try clear c16
                    try clear c16b0
                    try clear c17
                    try clear c17b0
                    try clear c18
                    try clear c18b0
                    try clear c19
                    try clear c19b0
                    try clear c20
                    try clear c20b0
                    try clear c21
                    try clear c21b0
                    try clear c22
                    try clear c22b0
                    try clear c23
                    try clear c31
                    try clear c31b0
                    try clear c31b1
                    try clear c32
                    try clear c32b0
                    try clear c32b1
                    try clear c35
                    try clear p2
                    try clear p6
                    try clear q1
                    try clear q10
                    obtain ⟨x14_3, x15_3, rfl, rfl, HA, HK3, HO_8, HO_10, HO_12, HB⟩ := hrel
                    cases gk with
                    | zero => exact absurd HA.out (by simp [purflinglaw07_GridSlots.l0])
                    | succ k3 =>
                      have H := HA.out
                      clear HA
                      simp only [purflinglaw07_GridSlots.l0] at H
                      by_cases c36 : x15_3 < (t284.length : Int)
                      · rw [if_pos c36] at H
                        have c36b0 : decide (x15_3 < (t284.length : Int)) = true := decide_eq_true c36
                        clear c36
                        by_cases c37 : 0 ≤ x15_3
                        · rw [if_pos c37] at H
                          have c37b0 : decide (0 ≤ x15_3) = true := decide_eq_true c37
                          clear c37
                          by_cases c38 : x15_3 < (t288.length : Int)
                          · rw [if_pos c38] at H
                            have c38b0 : decide (x15_3 < (t288.length : Int)) = true := decide_eq_true c38
                            clear c38
                            replace H := Option.bind_eq_some_iff.mp H
                            obtain ⟨t298, A390, H⟩ := H
                            replace H : (if t298 = true then (purflinglaw07_GridSlots.l1 k3 t279 t284 t288 t292 x14_3 x15_3 0) else (some false)) = some r := H
                            have A39 := Aside0.mk A390
                            clear A390
                            by_cases c40 : t298 = true
                            · subst c40
                              have H1 : (purflinglaw07_GridSlots.l1 k3 t279 t284 t288 t292 x14_3 x15_3 0) = some r := by rw [if_pos rfl] at H; exact H
                              clear H
                              have H := H1
                              clear H1
                              have H' := Aside0.mk H
                              clear H
                              obtain ⟨Ao41, co41, eo41⟩ := Kd.S_slice HO_8.out
                              subst eo41
                              have p296 : 0 ≤ (x15_3 : Int) := of_decide_eq_true (by first | (with_reducible assumption) | assumption)
                              have q296 : x15_3 < (t284.length : Int) := of_decide_eq_true (by first | (with_reducible assumption) | assumption)
                              obtain ⟨ad296, A296_0, c296_0, e296, hx296_0, hl296_0, hi296_0⟩ := at_L4 (Kd.S_reads' HO_8.out).2.2 x15_3 p296 q296
                              cases e296
                              obtain ⟨ce296, hce296, hMe296, hcc296⟩ := Kd.S_get HO_8.out [] x15_3 p296 (by first | exact q296 | exact of_decide_eq_true (by first | (with_reducible assumption) | assumption) | (have e_ := (Kd.S_reads' HO_8.out).1; omega))
                              obtain ⟨ve296_0, rfl, ge296_0⟩ := hMe296
                              have hv296_0 := hcc296 0 _ rfl
                              rw [Nat.add_zero, show ((Kd.slice 3 (Kd.int .i64))).sz = 1 from rfl, Nat.mul_one] at hv296_0
                              replace hv296_0 := Option.some.inj (hv296_0.symm.trans hx296_0)
                              rw [hv296_0] at ge296_0
                              have HL296_0 := Aside0.mk (show Kd.R (Kd.int .i64) 3 _ _ _ _ (rd_L4 t284 x15_3) from ge296_0)
                              clear hv296_0 ge296_0
                              clear hcc296 hce296
                              have HR296_0 := Aside0.mk hi296_0
                              have HC296_0 := Aside0.mk hl296_0
                              clear hi296_0 hl296_0
                              replace p296 := eq_true p296
                              replace q296 := eq_true q296
                              obtain ⟨Ao42, co42, eo42⟩ := Kd.S_slice HO_10.out
                              subst eo42
                              have p297 : 0 ≤ (x15_3 : Int) := of_decide_eq_true (by first | (with_reducible assumption) | assumption)
                              have q297 : x15_3 < (t288.length : Int) := of_decide_eq_true (by first | (with_reducible assumption) | assumption)
                              obtain ⟨ad297, A297_0, c297_0, e297, hx297_0, hl297_0, hi297_0⟩ := at_L4 (Kd.S_reads' HO_10.out).2.2 x15_3 p297 q297
                              cases e297
                              obtain ⟨ce297, hce297, hMe297, hcc297⟩ := Kd.S_get HO_10.out [] x15_3 p297 (by first | exact q297 | exact of_decide_eq_true (by first | (with_reducible assumption) | assumption) | (have e_ := (Kd.S_reads' HO_10.out).1; omega))
                              obtain ⟨ve297_0, rfl, ge297_0⟩ := hMe297
                              have hv297_0 := hcc297 0 _ rfl
                              rw [Nat.add_zero, show ((Kd.slice 3 (Kd.int .i64))).sz = 1 from rfl, Nat.mul_one] at hv297_0
                              replace hv297_0 := Option.some.inj (hv297_0.symm.trans hx297_0)
                              rw [hv297_0] at ge297_0
                              have HL297_0 := Aside0.mk (show Kd.R (Kd.int .i64) 3 _ _ _ _ (rd_L4 t288 x15_3) from ge297_0)
                              clear hv297_0 ge297_0
                              clear hcc297 hce297
                              have HR297_0 := Aside0.mk hi297_0
                              have HC297_0 := Aside0.mk hl297_0
                              clear hi297_0 hl297_0
                              replace p297 := eq_true p297
                              replace q297 := eq_true q297
                              go_wp2_with (first | (go_at_call 25; (with_reducible refine (purflingref04_Ints.calls k3 _ _ (rd_L4 t284 x15_3) _ _ (rd_L4 t288 x15_3) true _ ?side1 ?side2 ?side3 ?side4 A39.out).mono ?_); (case side1 => repeat (first | exact (by repeat (first | (with_reducible exact HR296_0.out) | (with_reducible refine Kd.C_alloc ?_ _) | (with_reducible refine Kd.C_drewN ?_ _) | (with_reducible refine Kd.C_drew ?_) | exact HR296_0.out)) | (with_reducible refine Kd.C_alloc ?_ _) | (with_reducible refine Kd.C_drewN ?_ _) | (with_reducible refine Kd.C_drew ?_))); (case side2 => exact HC296_0.out); (case side3 => repeat (first | exact (by repeat (first | (with_reducible exact HR297_0.out) | (with_reducible refine Kd.C_alloc ?_ _) | (with_reducible refine Kd.C_drewN ?_ _) | (with_reducible refine Kd.C_drew ?_) | exact HR297_0.out)) | (with_reducible refine Kd.C_alloc ?_ _) | (with_reducible refine Kd.C_drewN ?_ _) | (with_reducible refine Kd.C_drew ?_))); (case side4 => exact HC297_0.out); rintro e w' ⟨rfl, ⟨nd, rfl⟩⟩; (try first | exact ⟨rfl, _, World.drewN_drewN _ _ _⟩ | exact ⟨rfl, _, Eq.trans (World.drewN_drewN _ _ _) (congrArg (World.drewN _) (Nat.add_assoc _ _ _))⟩)))
                              repeat (go_quiet (first | (go_at_call 25; (with_reducible refine (purflingref04_Ints.calls k3 _ _ (rd_L4 t284 x15_3) _ _ (rd_L4 t288 x15_3) true _ ?side1 ?side2 ?side3 ?side4 A39.out).mono ?_); (case side1 => repeat (first | exact (by repeat (first | (with_reducible exact HR296_0.out) | (with_reducible refine Kd.C_alloc ?_ _) | (with_reducible refine Kd.C_drewN ?_ _) | (with_reducible refine Kd.C_drew ?_) | exact HR296_0.out)) | (with_reducible refine Kd.C_alloc ?_ _) | (with_reducible refine Kd.C_drewN ?_ _) | (with_reducible refine Kd.C_drew ?_))); (case side2 => exact HC296_0.out); (case side3 => repeat (first | exact (by repeat (first | (with_reducible exact HR297_0.out) | (with_reducible refine Kd.C_alloc ?_ _) | (with_reducible refine Kd.C_drewN ?_ _) | (with_reducible refine Kd.C_drew ?_) | exact HR297_0.out)) | (with_reducible refine Kd.C_alloc ?_ _) | (with_reducible refine Kd.C_drewN ?_ _) | (with_reducible refine Kd.C_drew ?_))); (case side4 => exact HC297_0.out); rintro e w' ⟨rfl, ⟨nd, rfl⟩⟩; (try first | exact ⟨rfl, _, World.drewN_drewN _ _ _⟩ | exact ⟨rfl, _, Eq.trans (World.drewN_drewN _ _ _) (congrArg (World.drewN _) (Nat.add_assoc _ _ _))⟩))); try go_wp2_with (first | (go_at_call 25; (with_reducible refine (purflingref04_Ints.calls k3 _ _ (rd_L4 t284 x15_3) _ _ (rd_L4 t288 x15_3) true _ ?side1 ?side2 ?side3 ?side4 A39.out).mono ?_); (case side1 => repeat (first | exact (by repeat (first | (with_reducible exact HR296_0.out) | (with_reducible refine Kd.C_alloc ?_ _) | (with_reducible refine Kd.C_drewN ?_ _) | (with_reducible refine Kd.C_drew ?_) | exact HR296_0.out)) | (with_reducible refine Kd.C_alloc ?_ _) | (with_reducible refine Kd.C_drewN ?_ _) | (with_reducible refine Kd.C_drew ?_))); (case side2 => exact HC296_0.out); (case side3 => repeat (first | exact (by repeat (first | (with_reducible exact HR297_0.out) | (with_reducible refine Kd.C_alloc ?_ _) | (with_reducible refine Kd.C_drewN ?_ _) | (with_reducible refine Kd.C_drew ?_) | exact HR297_0.out)) | (with_reducible refine Kd.C_alloc ?_ _) | (with_reducible refine Kd.C_drewN ?_ _) | (with_reducible refine Kd.C_drew ?_))); (case side4 => exact HC297_0.out); rintro e w' ⟨rfl, ⟨nd, rfl⟩⟩; (try first | exact ⟨rfl, _, World.drewN_drewN _ _ _⟩ | exact ⟨rfl, _, Eq.trans (World.drewN_drewN _ _ _) (congrArg (World.drewN _) (Nat.add_assoc _ _ _))⟩))))
                              go_loopg [14, 16] k3 (fun kq v14 v16 w' => ∃ (x14_4 : Int) (x16_4 : Int), v14 = .int .i64 x14_4 ∧ v16 = .int .i64 x16_4 ∧ Aside0 (purflinglaw07_GridSlots.l1 kq t279 t284 t288 t292 x14_4 x15_3 x16_4 = some r) ∧ Aside0 (kq ≤ k3) ∧ Aside0 (Kd.S (Kd.slice 3 (Kd.int .i64)) 23 w' w.heap.size (fun k_ => some k_ ≠ ((.slice (some ad297) t288.length co42) : Value).ownBlock) (.slice (some ad296) t284.length co41) t284) ∧ Aside0 (Kd.S (Kd.slice 3 (Kd.int .i64)) 23 w' w.heap.size (fun k_ => some k_ ≠ ((.slice (some ad296) t284.length co41) : Value).ownBlock) (.slice (some ad297) t288.length co42) t288) ∧ Aside0 (Kd.R k45 45 w' w.heap.size (fun _ => True) v294 t292) ∧ Aside0 (Kd.C (Kd.int .i64) w' A296_0 (rd_L4 t284 x15_3).length (rd_L4 t284 x15_3)) ∧ Aside0 (Kd.C (Kd.int .i64) w' A297_0 (rd_L4 t288 x15_3).length (rd_L4 t288 x15_3)) ∧ Aside0 (Below w.heap.size w w'))
                              case atStart => exact ⟨(x14_3), (0), (by first | rfl | (simp; done) | (simp [*]; done)), (by first | rfl | (simp; done) | (simp [*]; done)), H', ⟨Nat.le_refl _⟩, ⟨by (with_reducible repeat (first | apply Kd.S_alloc | apply Kd.S_drewN | apply Kd.S_drew)); exact HO_8.out⟩, ⟨by (with_reducible repeat (first | apply Kd.S_alloc | apply Kd.S_drewN | apply Kd.S_drew)); exact HO_10.out⟩, ⟨by (with_reducible repeat (first | apply Kd.R_alloc | apply Kd.R_drewN | apply Kd.R_drew)); exact HO_12.out⟩, ⟨by repeat (first | (with_reducible exact HR296_0.out) | (with_reducible refine Kd.C_alloc ?_ _) | (with_reducible refine Kd.C_drewN ?_ _) | (with_reducible refine Kd.C_drew ?_) | exact HR296_0.out)⟩, ⟨by repeat (first | (with_reducible exact HR297_0.out) | (with_reducible refine Kd.C_alloc ?_ _) | (with_reducible refine Kd.C_drewN ?_ _) | (with_reducible refine Kd.C_drew ?_) | exact HR297_0.out)⟩, ⟨by repeat (first | (with_reducible first | exact HB.out | apply below_alloc | apply pw_below_drewN | apply below_drew1) | exact HB.out)⟩⟩
                              case round =>
                                clear H'
                                try clear c1
                                try clear q1
                                try clear c2
                                try clear p2
                                try clear q2
                                try clear hx2
                                try clear c3
                                try clear c4
                                try clear c6
                                try clear c6b0
                                try clear c6b1
                                try clear p6
                                try clear c7
                                try clear c7b0
                                try clear c7b1
                                try clear q10
                                try clear c11
                                try clear c11b0
                                try clear c12
                                try clear c12b0
                                try clear c13
                                try clear c13b0
                                try clear c14
                                try clear c14b0
                                try clear c15
                                try clear c15b0
                                try clear c16
                                try clear c16b0
                                try clear c17
                                try clear c17b0
                                try clear c18
                                try clear c18b0
                                try clear c19
                                try clear c19b0
                                try clear c20
                                try clear c20b0
                                try clear c21
                                try clear c21b0
                                try clear c22
                                try clear c22b0
                                try clear c23
                                try clear c29
                                try clear p29
                                try clear q29
                                try clear hx29
                                try clear c31
                                try clear c31b0
                                try clear c31b1
                                try clear c32
                                try clear c32b0
                                try clear c32b1
                                try clear c35
                                try clear c36
                                try clear c36b0
                                try clear c37
                                try clear c37b0
                                try clear c38
                                try clear c38b0
                                try clear c40
                                try clear hx296_0
                                try clear hx297_0
                                try clear p2
                                try clear p296
                                try clear p297
                                try clear p6
                                try clear q1
                                try clear q10
                                try clear q296
                                try clear q297
                                obtain ⟨x14_4, x16_4, rfl, rfl, HA, HK4, HO_8, HO_10, HO_12, HR296_0, HR297_0, HB⟩ := hrel
                                cases gk with
                                | zero => exact absurd HA.out (by simp [purflinglaw07_GridSlots.l1])
                                | succ k4 =>
                                  have H := HA.out
                                  clear HA
                                  simp only [purflinglaw07_GridSlots.l1] at H
                                  by_cases c43 : 0 ≤ x15_3
                                  · rw [if_pos c43] at H
                                    have c43b0 : decide (0 ≤ x15_3) = true := decide_eq_true c43
                                    clear c43
                                    by_cases c44 : x15_3 < (t288.length : Int)
                                    · rw [if_pos c44] at H
                                      have c44b0 : decide (x15_3 < (t288.length : Int)) = true := decide_eq_true c44
                                      clear c44
                                      by_cases c45 : x16_4 < ((rd_L4 t288 x15_3).length : Int)
                                      · rw [if_pos c45] at H
                                        have c45b0 : decide (x16_4 < ((rd_L4 t288 x15_3).length : Int)) = true := decide_eq_true c45
                                        clear c45
                                        by_cases c46 : 0 ≤ x16_4
                                        · rw [if_pos c46] at H
                                          have c46b0 : decide (0 ≤ x16_4) = true := decide_eq_true c46
                                          clear c46
                                          by_cases c47 : (rd (rd_L4 t288 x15_3) x16_4) ≥ 0
                                          · rw [if_pos c47] at H
                                            have c47b0 : decide (0 ≤ (rd (rd_L4 t288 x15_3) x16_4)) = true := decide_eq_true c47
                                            clear c47
                                            have H' := Aside0.mk H
                                            clear H
                                            have p299 : 0 ≤ (x15_3 : Int) := of_decide_eq_true (by first | (with_reducible assumption) | assumption)
                                            have q299 : x15_3 < (t288.length : Int) := of_decide_eq_true (by first | (with_reducible assumption) | assumption)
                                            obtain ⟨ad299, A299_0, c299_0, e299, hx299_0, hl299_0, hi299_0⟩ := at_L4 (Kd.S_reads' HO_10.out).2.2 x15_3 p299 q299
                                            obtain rfl : ad297 = ad299 := (by injection e299)
                                            obtain ⟨ce299, hce299, hMe299, hcc299⟩ := Kd.S_get HO_10.out [] x15_3 p299 (by first | exact q299 | exact of_decide_eq_true (by first | (with_reducible assumption) | assumption) | (have e_ := (Kd.S_reads' HO_10.out).1; omega))
                                            obtain ⟨ve299_0, rfl, ge299_0⟩ := hMe299
                                            have hv299_0 := hcc299 0 _ rfl
                                            rw [Nat.add_zero, show ((Kd.slice 3 (Kd.int .i64))).sz = 1 from rfl, Nat.mul_one] at hv299_0
                                            replace hv299_0 := Option.some.inj (hv299_0.symm.trans hx299_0)
                                            rw [hv299_0] at ge299_0
                                            have HL299_0 := Aside0.mk (show Kd.R (Kd.int .i64) 3 _ _ _ _ (rd_L4 t288 x15_3) from ge299_0)
                                            clear hv299_0 ge299_0
                                            clear hcc299 hce299
                                            have HR299_0 := Aside0.mk hi299_0
                                            have HC299_0 := Aside0.mk hl299_0
                                            clear hi299_0 hl299_0
                                            replace p299 := eq_true p299
                                            replace q299 := eq_true q299
                                            have p300 : 0 ≤ (x15_3 : Int) := of_decide_eq_true (by first | (with_reducible assumption) | assumption)
                                            have q300 : x15_3 < (t288.length : Int) := of_decide_eq_true (by first | (with_reducible assumption) | assumption)
                                            obtain ⟨ad300, A300_0, c300_0, e300, hx300_0, hl300_0, hi300_0⟩ := at_L4 (Kd.S_reads' HO_10.out).2.2 x15_3 p300 q300
                                            obtain rfl : ad297 = ad300 := (by injection e300)
                                            obtain ⟨ce300, hce300, hMe300, hcc300⟩ := Kd.S_get HO_10.out [] x15_3 p300 (by first | exact q300 | exact of_decide_eq_true (by first | (with_reducible assumption) | assumption) | (have e_ := (Kd.S_reads' HO_10.out).1; omega))
                                            obtain ⟨ve300_0, rfl, ge300_0⟩ := hMe300
                                            have hv300_0 := hcc300 0 _ rfl
                                            rw [Nat.add_zero, show ((Kd.slice 3 (Kd.int .i64))).sz = 1 from rfl, Nat.mul_one] at hv300_0
                                            replace hv300_0 := Option.some.inj (hv300_0.symm.trans hx300_0)
                                            rw [hv300_0] at ge300_0
                                            have HL300_0 := Aside0.mk (show Kd.R (Kd.int .i64) 3 _ _ _ _ (rd_L4 t288 x15_3) from ge300_0)
                                            clear hv300_0 ge300_0
                                            clear hcc300 hce300
                                            have HR300_0 := Aside0.mk hi300_0
                                            have HC300_0 := Aside0.mk hl300_0
                                            clear hi300_0 hl300_0
                                            replace p300 := eq_true p300
                                            replace q300 := eq_true q300
                                            have ea_ := Option.some.inj (hx299_0.symm.trans hx300_0)
                                            injection ea_ with ea_ en_ ec_
                                            subst ea_
                                            subst ec_
                                            clear en_
                                            have p301 : 0 ≤ (x16_4 : Int) := of_decide_eq_true (by first | (with_reducible assumption) | assumption)
                                            have q301 : x16_4 < ((rd_L4 t288 x15_3).length : Int) := of_decide_eq_true (by first | (with_reducible assumption) | assumption)
                                            obtain ⟨ad301, e301, hx301_0⟩ := Kd.at_int (by repeat (first | (with_reducible exact HR300_0.out) | (with_reducible refine Kd.C_alloc ?_ _) | (with_reducible refine Kd.C_drewN ?_ _) | (with_reducible refine Kd.C_drew ?_) | exact HR300_0.out)) x16_4 p301 q301
                                            cases e301
                                            replace p301 := eq_true p301
                                            replace q301 := eq_true q301
                                            go_wp2
                                            repeat (go_quiet (fail); try go_wp2)
                                            go_roundg k4
                                            case measure => have := HJ7.out; have := HJ26.out; have := HK3.out; have := HK4.out; omega
                                            case rel => exact ⟨(x14_4), (wrap64 (x16_4 + 1)), (by first | rfl | (simp; done) | (simp [*]; done)), (by first | rfl | (simp; done) | (simp [*]; done)), H', ⟨by have := HJ7.out; have := HJ26.out; have := HK3.out; have := HK4.out; omega⟩, ⟨by (with_reducible repeat (first | apply Kd.S_alloc | apply Kd.S_drewN | apply Kd.S_drew)); exact HO_8.out⟩, ⟨by (with_reducible repeat (first | apply Kd.S_alloc | apply Kd.S_drewN | apply Kd.S_drew)); exact HO_10.out⟩, ⟨by (with_reducible repeat (first | apply Kd.R_alloc | apply Kd.R_drewN | apply Kd.R_drew)); exact HO_12.out⟩, ⟨by repeat (first | (with_reducible exact HR296_0.out) | (with_reducible refine Kd.C_alloc ?_ _) | (with_reducible refine Kd.C_drewN ?_ _) | (with_reducible refine Kd.C_drew ?_) | exact HR296_0.out)⟩, ⟨by repeat (first | (with_reducible exact HR297_0.out) | (with_reducible refine Kd.C_alloc ?_ _) | (with_reducible refine Kd.C_drewN ?_ _) | (with_reducible refine Kd.C_drew ?_) | exact HR297_0.out)⟩, ⟨by repeat (first | (with_reducible first | exact HB.out | apply below_alloc | apply pw_below_drewN | apply below_drew1) | exact HB.out)⟩⟩
                                          · rw [if_neg c47] at H
                                            have c47b0 : decide (0 ≤ (rd (rd_L4 t288 x15_3) x16_4)) = false := decide_eq_false c47
                                            clear c47
                                            by_cases c48 : x14_4 ≥ (t292.length : Int)
                                            · rw [if_pos c48] at H
                                              have c48b0 : decide ((t292.length : Int) ≤ x14_4) = true := decide_eq_true c48
                                              clear c48
                                              obtain rfl := Option.some.inj H
                                              have p299 : 0 ≤ (x15_3 : Int) := of_decide_eq_true (by first | (with_reducible assumption) | assumption)
                                              have q299 : x15_3 < (t288.length : Int) := of_decide_eq_true (by first | (with_reducible assumption) | assumption)
                                              obtain ⟨ad299, A299_0, c299_0, e299, hx299_0, hl299_0, hi299_0⟩ := at_L4 (Kd.S_reads' HO_10.out).2.2 x15_3 p299 q299
                                              obtain rfl : ad297 = ad299 := (by injection e299)
                                              obtain ⟨ce299, hce299, hMe299, hcc299⟩ := Kd.S_get HO_10.out [] x15_3 p299 (by first | exact q299 | exact of_decide_eq_true (by first | (with_reducible assumption) | assumption) | (have e_ := (Kd.S_reads' HO_10.out).1; omega))
                                              obtain ⟨ve299_0, rfl, ge299_0⟩ := hMe299
                                              have hv299_0 := hcc299 0 _ rfl
                                              rw [Nat.add_zero, show ((Kd.slice 3 (Kd.int .i64))).sz = 1 from rfl, Nat.mul_one] at hv299_0
                                              replace hv299_0 := Option.some.inj (hv299_0.symm.trans hx299_0)
                                              rw [hv299_0] at ge299_0
                                              have HL299_0 := Aside0.mk (show Kd.R (Kd.int .i64) 3 _ _ _ _ (rd_L4 t288 x15_3) from ge299_0)
                                              clear hv299_0 ge299_0
                                              clear hcc299 hce299
                                              have HR299_0 := Aside0.mk hi299_0
                                              have HC299_0 := Aside0.mk hl299_0
                                              clear hi299_0 hl299_0
                                              replace p299 := eq_true p299
                                              replace q299 := eq_true q299
                                              have p300 : 0 ≤ (x15_3 : Int) := of_decide_eq_true (by first | (with_reducible assumption) | assumption)
                                              have q300 : x15_3 < (t288.length : Int) := of_decide_eq_true (by first | (with_reducible assumption) | assumption)
                                              obtain ⟨ad300, A300_0, c300_0, e300, hx300_0, hl300_0, hi300_0⟩ := at_L4 (Kd.S_reads' HO_10.out).2.2 x15_3 p300 q300
                                              obtain rfl : ad297 = ad300 := (by injection e300)
                                              obtain ⟨ce300, hce300, hMe300, hcc300⟩ := Kd.S_get HO_10.out [] x15_3 p300 (by first | exact q300 | exact of_decide_eq_true (by first | (with_reducible assumption) | assumption) | (have e_ := (Kd.S_reads' HO_10.out).1; omega))
                                              obtain ⟨ve300_0, rfl, ge300_0⟩ := hMe300
                                              have hv300_0 := hcc300 0 _ rfl
                                              rw [Nat.add_zero, show ((Kd.slice 3 (Kd.int .i64))).sz = 1 from rfl, Nat.mul_one] at hv300_0
                                              replace hv300_0 := Option.some.inj (hv300_0.symm.trans hx300_0)
                                              rw [hv300_0] at ge300_0
                                              have HL300_0 := Aside0.mk (show Kd.R (Kd.int .i64) 3 _ _ _ _ (rd_L4 t288 x15_3) from ge300_0)
                                              clear hv300_0 ge300_0
                                              clear hcc300 hce300
                                              have HR300_0 := Aside0.mk hi300_0
                                              have HC300_0 := Aside0.mk hl300_0
                                              clear hi300_0 hl300_0
                                              replace p300 := eq_true p300
                                              replace q300 := eq_true q300
                                              have ea_ := Option.some.inj (hx299_0.symm.trans hx300_0)
                                              injection ea_ with ea_ en_ ec_
                                              subst ea_
                                              subst ec_
                                              clear en_
                                              have p301 : 0 ≤ (x16_4 : Int) := of_decide_eq_true (by first | (with_reducible assumption) | assumption)
                                              have q301 : x16_4 < ((rd_L4 t288 x15_3).length : Int) := of_decide_eq_true (by first | (with_reducible assumption) | assumption)
                                              obtain ⟨ad301, e301, hx301_0⟩ := Kd.at_int (by repeat (first | (with_reducible exact HR300_0.out) | (with_reducible refine Kd.C_alloc ?_ _) | (with_reducible refine Kd.C_drewN ?_ _) | (with_reducible refine Kd.C_drew ?_) | exact HR300_0.out)) x16_4 p301 q301
                                              cases e301
                                              replace p301 := eq_true p301
                                              replace q301 := eq_true q301
                                              obtain ⟨Ao49, co49, eo49⟩ := Kd.R_slice HO_12.out
                                              subst eo49
                                              go_wp2
                                              repeat (go_quiet (fail); try go_wp2)
                                              go_ret
                                              exact ⟨by first | rfl | (simp [errW_none, errW_some] <;> rfl) | (simp only [← hji5]; first | rfl | (simp [errW_none, errW_some] <;> rfl)) | (simp [*, errW_none, errW_some] <;> rfl), by repeat (first | (with_reducible first | exact HB.out | apply below_alloc | apply pw_below_drewN | apply below_drew1) | exact HB.out)⟩
                                            · rw [if_neg c48] at H
                                              have c48b0 : decide ((t292.length : Int) ≤ x14_4) = false := decide_eq_false c48
                                              clear c48
                                              by_cases c50 : 0 ≤ x14_4
                                              · rw [if_pos c50] at H
                                                have c50b0 : decide (0 ≤ x14_4) = true := decide_eq_true c50
                                                clear c50
                                                by_cases c51 : x14_4 < (t292.length : Int)
                                                · rw [if_pos c51] at H
                                                  have c51b0 : decide (x14_4 < (t292.length : Int)) = true := decide_eq_true c51
                                                  clear c51
                                                  by_cases c52 : (!(((rd_T45 t292 x14_4).f0) == x15_3) || (!(((rd_T45 t292 x14_4).f1) == x16_4))) = true
                                                  · rw [if_pos c52] at H
                                                    have c52b0 : (!(((rd_T45 t292 x14_4).f0) == x15_3) || (!(((rd_T45 t292 x14_4).f1) == x16_4))) = true := c52
                                                    clear c52
                                                    obtain rfl := Option.some.inj H
                                                    have p299 : 0 ≤ (x15_3 : Int) := of_decide_eq_true (by first | (with_reducible assumption) | assumption)
                                                    have q299 : x15_3 < (t288.length : Int) := of_decide_eq_true (by first | (with_reducible assumption) | assumption)
                                                    obtain ⟨ad299, A299_0, c299_0, e299, hx299_0, hl299_0, hi299_0⟩ := at_L4 (Kd.S_reads' HO_10.out).2.2 x15_3 p299 q299
                                                    obtain rfl : ad297 = ad299 := (by injection e299)
                                                    obtain ⟨ce299, hce299, hMe299, hcc299⟩ := Kd.S_get HO_10.out [] x15_3 p299 (by first | exact q299 | exact of_decide_eq_true (by first | (with_reducible assumption) | assumption) | (have e_ := (Kd.S_reads' HO_10.out).1; omega))
                                                    obtain ⟨ve299_0, rfl, ge299_0⟩ := hMe299
                                                    have hv299_0 := hcc299 0 _ rfl
                                                    rw [Nat.add_zero, show ((Kd.slice 3 (Kd.int .i64))).sz = 1 from rfl, Nat.mul_one] at hv299_0
                                                    replace hv299_0 := Option.some.inj (hv299_0.symm.trans hx299_0)
                                                    rw [hv299_0] at ge299_0
                                                    have HL299_0 := Aside0.mk (show Kd.R (Kd.int .i64) 3 _ _ _ _ (rd_L4 t288 x15_3) from ge299_0)
                                                    clear hv299_0 ge299_0
                                                    clear hcc299 hce299
                                                    have HR299_0 := Aside0.mk hi299_0
                                                    have HC299_0 := Aside0.mk hl299_0
                                                    clear hi299_0 hl299_0
                                                    replace p299 := eq_true p299
                                                    replace q299 := eq_true q299
                                                    have p300 : 0 ≤ (x15_3 : Int) := of_decide_eq_true (by first | (with_reducible assumption) | assumption)
                                                    have q300 : x15_3 < (t288.length : Int) := of_decide_eq_true (by first | (with_reducible assumption) | assumption)
                                                    obtain ⟨ad300, A300_0, c300_0, e300, hx300_0, hl300_0, hi300_0⟩ := at_L4 (Kd.S_reads' HO_10.out).2.2 x15_3 p300 q300
                                                    obtain rfl : ad297 = ad300 := (by injection e300)
                                                    obtain ⟨ce300, hce300, hMe300, hcc300⟩ := Kd.S_get HO_10.out [] x15_3 p300 (by first | exact q300 | exact of_decide_eq_true (by first | (with_reducible assumption) | assumption) | (have e_ := (Kd.S_reads' HO_10.out).1; omega))
                                                    obtain ⟨ve300_0, rfl, ge300_0⟩ := hMe300
                                                    have hv300_0 := hcc300 0 _ rfl
                                                    rw [Nat.add_zero, show ((Kd.slice 3 (Kd.int .i64))).sz = 1 from rfl, Nat.mul_one] at hv300_0
                                                    replace hv300_0 := Option.some.inj (hv300_0.symm.trans hx300_0)
                                                    rw [hv300_0] at ge300_0
                                                    have HL300_0 := Aside0.mk (show Kd.R (Kd.int .i64) 3 _ _ _ _ (rd_L4 t288 x15_3) from ge300_0)
                                                    clear hv300_0 ge300_0
                                                    clear hcc300 hce300
                                                    have HR300_0 := Aside0.mk hi300_0
                                                    have HC300_0 := Aside0.mk hl300_0
                                                    clear hi300_0 hl300_0
                                                    replace p300 := eq_true p300
                                                    replace q300 := eq_true q300
                                                    have ea_ := Option.some.inj (hx299_0.symm.trans hx300_0)
                                                    injection ea_ with ea_ en_ ec_
                                                    subst ea_
                                                    subst ec_
                                                    clear en_
                                                    have p301 : 0 ≤ (x16_4 : Int) := of_decide_eq_true (by first | (with_reducible assumption) | assumption)
                                                    have q301 : x16_4 < ((rd_L4 t288 x15_3).length : Int) := of_decide_eq_true (by first | (with_reducible assumption) | assumption)
                                                    obtain ⟨ad301, e301, hx301_0⟩ := Kd.at_int (by repeat (first | (with_reducible exact HR300_0.out) | (with_reducible refine Kd.C_alloc ?_ _) | (with_reducible refine Kd.C_drewN ?_ _) | (with_reducible refine Kd.C_drew ?_) | exact HR300_0.out)) x16_4 p301 q301
                                                    cases e301
                                                    replace p301 := eq_true p301
                                                    replace q301 := eq_true q301
                                                    obtain ⟨Ao53, co53, eo53⟩ := Kd.R_slice HO_12.out
                                                    subst eo53
                                                    have p302 : 0 ≤ (x14_4 : Int) := of_decide_eq_true (by first | (with_reducible assumption) | assumption)
                                                    have q302 : x14_4 < (t292.length : Int) := of_decide_eq_true (by first | (with_reducible assumption) | assumption)
                                                    obtain ⟨ad302, e302, hx302_0, hx302_1⟩ := at_T45 (Kd.R_reads' HO_12.out).2.2 x14_4 p302 q302
                                                    cases e302
                                                    replace p302 := eq_true p302
                                                    replace q302 := eq_true q302
                                                    go_wp2
                                                    repeat (go_quiet (fail); try go_wp2)
                                                    go_ret
                                                    exact ⟨by first | rfl | (simp [errW_none, errW_some] <;> rfl) | (simp only [← hji5]; first | rfl | (simp [errW_none, errW_some] <;> rfl)) | (simp [*, errW_none, errW_some] <;> rfl), by repeat (first | (with_reducible first | exact HB.out | apply below_alloc | apply pw_below_drewN | apply below_drew1) | exact HB.out)⟩
                                                  · rw [if_neg c52] at H
                                                    have c52b0 : (!(((rd_T45 t292 x14_4).f0) == x15_3) || (!(((rd_T45 t292 x14_4).f1) == x16_4))) = false := by simpa using c52
                                                    clear c52
                                                    have H' := Aside0.mk H
                                                    clear H
                                                    have p299 : 0 ≤ (x15_3 : Int) := of_decide_eq_true (by first | (with_reducible assumption) | assumption)
                                                    have q299 : x15_3 < (t288.length : Int) := of_decide_eq_true (by first | (with_reducible assumption) | assumption)
                                                    obtain ⟨ad299, A299_0, c299_0, e299, hx299_0, hl299_0, hi299_0⟩ := at_L4 (Kd.S_reads' HO_10.out).2.2 x15_3 p299 q299
                                                    obtain rfl : ad297 = ad299 := (by injection e299)
                                                    obtain ⟨ce299, hce299, hMe299, hcc299⟩ := Kd.S_get HO_10.out [] x15_3 p299 (by first | exact q299 | exact of_decide_eq_true (by first | (with_reducible assumption) | assumption) | (have e_ := (Kd.S_reads' HO_10.out).1; omega))
                                                    obtain ⟨ve299_0, rfl, ge299_0⟩ := hMe299
                                                    have hv299_0 := hcc299 0 _ rfl
                                                    rw [Nat.add_zero, show ((Kd.slice 3 (Kd.int .i64))).sz = 1 from rfl, Nat.mul_one] at hv299_0
                                                    replace hv299_0 := Option.some.inj (hv299_0.symm.trans hx299_0)
                                                    rw [hv299_0] at ge299_0
                                                    have HL299_0 := Aside0.mk (show Kd.R (Kd.int .i64) 3 _ _ _ _ (rd_L4 t288 x15_3) from ge299_0)
                                                    clear hv299_0 ge299_0
                                                    clear hcc299 hce299
                                                    have HR299_0 := Aside0.mk hi299_0
                                                    have HC299_0 := Aside0.mk hl299_0
                                                    clear hi299_0 hl299_0
                                                    replace p299 := eq_true p299
                                                    replace q299 := eq_true q299
                                                    have p300 : 0 ≤ (x15_3 : Int) := of_decide_eq_true (by first | (with_reducible assumption) | assumption)
                                                    have q300 : x15_3 < (t288.length : Int) := of_decide_eq_true (by first | (with_reducible assumption) | assumption)
                                                    obtain ⟨ad300, A300_0, c300_0, e300, hx300_0, hl300_0, hi300_0⟩ := at_L4 (Kd.S_reads' HO_10.out).2.2 x15_3 p300 q300
                                                    obtain rfl : ad297 = ad300 := (by injection e300)
                                                    obtain ⟨ce300, hce300, hMe300, hcc300⟩ := Kd.S_get HO_10.out [] x15_3 p300 (by first | exact q300 | exact of_decide_eq_true (by first | (with_reducible assumption) | assumption) | (have e_ := (Kd.S_reads' HO_10.out).1; omega))
                                                    obtain ⟨ve300_0, rfl, ge300_0⟩ := hMe300
                                                    have hv300_0 := hcc300 0 _ rfl
                                                    rw [Nat.add_zero, show ((Kd.slice 3 (Kd.int .i64))).sz = 1 from rfl, Nat.mul_one] at hv300_0
                                                    replace hv300_0 := Option.some.inj (hv300_0.symm.trans hx300_0)
                                                    rw [hv300_0] at ge300_0
                                                    have HL300_0 := Aside0.mk (show Kd.R (Kd.int .i64) 3 _ _ _ _ (rd_L4 t288 x15_3) from ge300_0)
                                                    clear hv300_0 ge300_0
                                                    clear hcc300 hce300
                                                    have HR300_0 := Aside0.mk hi300_0
                                                    have HC300_0 := Aside0.mk hl300_0
                                                    clear hi300_0 hl300_0
                                                    replace p300 := eq_true p300
                                                    replace q300 := eq_true q300
                                                    have ea_ := Option.some.inj (hx299_0.symm.trans hx300_0)
                                                    injection ea_ with ea_ en_ ec_
                                                    subst ea_
                                                    subst ec_
                                                    clear en_
                                                    have p301 : 0 ≤ (x16_4 : Int) := of_decide_eq_true (by first | (with_reducible assumption) | assumption)
                                                    have q301 : x16_4 < ((rd_L4 t288 x15_3).length : Int) := of_decide_eq_true (by first | (with_reducible assumption) | assumption)
                                                    obtain ⟨ad301, e301, hx301_0⟩ := Kd.at_int (by repeat (first | (with_reducible exact HR300_0.out) | (with_reducible refine Kd.C_alloc ?_ _) | (with_reducible refine Kd.C_drewN ?_ _) | (with_reducible refine Kd.C_drew ?_) | exact HR300_0.out)) x16_4 p301 q301
                                                    cases e301
                                                    replace p301 := eq_true p301
                                                    replace q301 := eq_true q301
                                                    obtain ⟨Ao54, co54, eo54⟩ := Kd.R_slice HO_12.out
                                                    subst eo54
                                                    have p302 : 0 ≤ (x14_4 : Int) := of_decide_eq_true (by first | (with_reducible assumption) | assumption)
                                                    have q302 : x14_4 < (t292.length : Int) := of_decide_eq_true (by first | (with_reducible assumption) | assumption)
                                                    obtain ⟨ad302, e302, hx302_0, hx302_1⟩ := at_T45 (Kd.R_reads' HO_12.out).2.2 x14_4 p302 q302
                                                    cases e302
                                                    replace p302 := eq_true p302
                                                    replace q302 := eq_true q302
                                                    go_wp2
                                                    repeat (go_quiet (fail); try go_wp2)
                                                    go_roundg k4
                                                    case measure => have := HJ7.out; have := HJ26.out; have := HK3.out; have := HK4.out; omega
                                                    case rel => exact ⟨(wrap64 (x14_4 + 1)), (wrap64 (x16_4 + 1)), (by first | rfl | (simp; done) | (simp [*]; done)), (by first | rfl | (simp; done) | (simp [*]; done)), H', ⟨by have := HJ7.out; have := HJ26.out; have := HK3.out; have := HK4.out; omega⟩, ⟨by (with_reducible repeat (first | apply Kd.S_alloc | apply Kd.S_drewN | apply Kd.S_drew)); exact HO_8.out⟩, ⟨by (with_reducible repeat (first | apply Kd.S_alloc | apply Kd.S_drewN | apply Kd.S_drew)); exact HO_10.out⟩, ⟨by (with_reducible repeat (first | apply Kd.R_alloc | apply Kd.R_drewN | apply Kd.R_drew)); exact HO_12.out⟩, ⟨by repeat (first | (with_reducible exact HR296_0.out) | (with_reducible refine Kd.C_alloc ?_ _) | (with_reducible refine Kd.C_drewN ?_ _) | (with_reducible refine Kd.C_drew ?_) | exact HR296_0.out)⟩, ⟨by repeat (first | (with_reducible exact HR297_0.out) | (with_reducible refine Kd.C_alloc ?_ _) | (with_reducible refine Kd.C_drewN ?_ _) | (with_reducible refine Kd.C_drew ?_) | exact HR297_0.out)⟩, ⟨by repeat (first | (with_reducible first | exact HB.out | apply below_alloc | apply pw_below_drewN | apply below_drew1) | exact HB.out)⟩⟩
                                                · rw [if_neg c51] at H
                                                  exact absurd H (by simp)
                                              · rw [if_neg c50] at H
                                                exact absurd H (by simp)
                                        · rw [if_neg c46] at H
                                          exact absurd H (by simp)
                                      · rw [if_neg c45] at H
                                        have c45b0 : decide (x16_4 < ((rd_L4 t288 x15_3).length : Int)) = false := decide_eq_false c45
                                        clear c45
                                        have H' := Aside0.mk H
                                        clear H
                                        have p299 : 0 ≤ (x15_3 : Int) := of_decide_eq_true (by first | (with_reducible assumption) | assumption)
                                        have q299 : x15_3 < (t288.length : Int) := of_decide_eq_true (by first | (with_reducible assumption) | assumption)
                                        obtain ⟨ad299, A299_0, c299_0, e299, hx299_0, hl299_0, hi299_0⟩ := at_L4 (Kd.S_reads' HO_10.out).2.2 x15_3 p299 q299
                                        obtain rfl : ad297 = ad299 := (by injection e299)
                                        obtain ⟨ce299, hce299, hMe299, hcc299⟩ := Kd.S_get HO_10.out [] x15_3 p299 (by first | exact q299 | exact of_decide_eq_true (by first | (with_reducible assumption) | assumption) | (have e_ := (Kd.S_reads' HO_10.out).1; omega))
                                        obtain ⟨ve299_0, rfl, ge299_0⟩ := hMe299
                                        have hv299_0 := hcc299 0 _ rfl
                                        rw [Nat.add_zero, show ((Kd.slice 3 (Kd.int .i64))).sz = 1 from rfl, Nat.mul_one] at hv299_0
                                        replace hv299_0 := Option.some.inj (hv299_0.symm.trans hx299_0)
                                        rw [hv299_0] at ge299_0
                                        have HL299_0 := Aside0.mk (show Kd.R (Kd.int .i64) 3 _ _ _ _ (rd_L4 t288 x15_3) from ge299_0)
                                        clear hv299_0 ge299_0
                                        clear hcc299 hce299
                                        have HR299_0 := Aside0.mk hi299_0
                                        have HC299_0 := Aside0.mk hl299_0
                                        clear hi299_0 hl299_0
                                        replace p299 := eq_true p299
                                        replace q299 := eq_true q299
                                        go_wp2
                                        repeat (go_quiet (fail); try go_wp2)
                                        go_roundg k4
                                        case measure => have := HJ7.out; have := HJ26.out; have := HK3.out; have := HK4.out; omega
                                        case rel => exact ⟨(x14_4), (wrap64 (x15_3 + 1)), (by first | rfl | (simp; done) | (simp [*]; done)), (by first | rfl | (simp; done) | (simp [*]; done)), H', ⟨by have := HJ7.out; have := HJ26.out; have := HK3.out; have := HK4.out; omega⟩, ⟨by (with_reducible repeat (first | apply Kd.S_alloc | apply Kd.S_drewN | apply Kd.S_drew)); exact HO_8.out⟩, ⟨by (with_reducible repeat (first | apply Kd.S_alloc | apply Kd.S_drewN | apply Kd.S_drew)); exact HO_10.out⟩, ⟨by (with_reducible repeat (first | apply Kd.R_alloc | apply Kd.R_drewN | apply Kd.R_drew)); exact HO_12.out⟩, ⟨by repeat (first | (with_reducible first | exact HB.out | apply below_alloc | apply pw_below_drewN | apply below_drew1) | exact HB.out)⟩⟩
                                    · rw [if_neg c44] at H
                                      exact absurd H (by simp)
                                  · rw [if_neg c43] at H
                                    exact absurd H (by simp)
                            · replace c40 := Bool.eq_false_iff.mpr c40
                              subst c40
                              have H1 : (some false) = some r := by rw [if_neg (show ¬ (false = true) by decide)] at H; exact H
                              clear H
                              have H := H1
                              clear H1
                              obtain rfl := Option.some.inj H
                              obtain ⟨Ao55, co55, eo55⟩ := Kd.S_slice HO_8.out
                              subst eo55
                              have p296 : 0 ≤ (x15_3 : Int) := of_decide_eq_true (by first | (with_reducible assumption) | assumption)
                              have q296 : x15_3 < (t284.length : Int) := of_decide_eq_true (by first | (with_reducible assumption) | assumption)
                              obtain ⟨ad296, A296_0, c296_0, e296, hx296_0, hl296_0, hi296_0⟩ := at_L4 (Kd.S_reads' HO_8.out).2.2 x15_3 p296 q296
                              cases e296
                              obtain ⟨ce296, hce296, hMe296, hcc296⟩ := Kd.S_get HO_8.out [] x15_3 p296 (by first | exact q296 | exact of_decide_eq_true (by first | (with_reducible assumption) | assumption) | (have e_ := (Kd.S_reads' HO_8.out).1; omega))
                              obtain ⟨ve296_0, rfl, ge296_0⟩ := hMe296
                              have hv296_0 := hcc296 0 _ rfl
                              rw [Nat.add_zero, show ((Kd.slice 3 (Kd.int .i64))).sz = 1 from rfl, Nat.mul_one] at hv296_0
                              replace hv296_0 := Option.some.inj (hv296_0.symm.trans hx296_0)
                              rw [hv296_0] at ge296_0
                              have HL296_0 := Aside0.mk (show Kd.R (Kd.int .i64) 3 _ _ _ _ (rd_L4 t284 x15_3) from ge296_0)
                              clear hv296_0 ge296_0
                              clear hcc296 hce296
                              have HR296_0 := Aside0.mk hi296_0
                              have HC296_0 := Aside0.mk hl296_0
                              clear hi296_0 hl296_0
                              replace p296 := eq_true p296
                              replace q296 := eq_true q296
                              obtain ⟨Ao56, co56, eo56⟩ := Kd.S_slice HO_10.out
                              subst eo56
                              have p297 : 0 ≤ (x15_3 : Int) := of_decide_eq_true (by first | (with_reducible assumption) | assumption)
                              have q297 : x15_3 < (t288.length : Int) := of_decide_eq_true (by first | (with_reducible assumption) | assumption)
                              obtain ⟨ad297, A297_0, c297_0, e297, hx297_0, hl297_0, hi297_0⟩ := at_L4 (Kd.S_reads' HO_10.out).2.2 x15_3 p297 q297
                              cases e297
                              obtain ⟨ce297, hce297, hMe297, hcc297⟩ := Kd.S_get HO_10.out [] x15_3 p297 (by first | exact q297 | exact of_decide_eq_true (by first | (with_reducible assumption) | assumption) | (have e_ := (Kd.S_reads' HO_10.out).1; omega))
                              obtain ⟨ve297_0, rfl, ge297_0⟩ := hMe297
                              have hv297_0 := hcc297 0 _ rfl
                              rw [Nat.add_zero, show ((Kd.slice 3 (Kd.int .i64))).sz = 1 from rfl, Nat.mul_one] at hv297_0
                              replace hv297_0 := Option.some.inj (hv297_0.symm.trans hx297_0)
                              rw [hv297_0] at ge297_0
                              have HL297_0 := Aside0.mk (show Kd.R (Kd.int .i64) 3 _ _ _ _ (rd_L4 t288 x15_3) from ge297_0)
                              clear hv297_0 ge297_0
                              clear hcc297 hce297
                              have HR297_0 := Aside0.mk hi297_0
                              have HC297_0 := Aside0.mk hl297_0
                              clear hi297_0 hl297_0
                              replace p297 := eq_true p297
                              replace q297 := eq_true q297
                              go_wp2_with (first | (go_at_call 25; (with_reducible refine (purflingref04_Ints.calls k3 _ _ (rd_L4 t284 x15_3) _ _ (rd_L4 t288 x15_3) false _ ?side1 ?side2 ?side3 ?side4 A39.out).mono ?_); (case side1 => repeat (first | exact (by repeat (first | (with_reducible exact HR296_0.out) | (with_reducible refine Kd.C_alloc ?_ _) | (with_reducible refine Kd.C_drewN ?_ _) | (with_reducible refine Kd.C_drew ?_) | exact HR296_0.out)) | (with_reducible refine Kd.C_alloc ?_ _) | (with_reducible refine Kd.C_drewN ?_ _) | (with_reducible refine Kd.C_drew ?_))); (case side2 => exact HC296_0.out); (case side3 => repeat (first | exact (by repeat (first | (with_reducible exact HR297_0.out) | (with_reducible refine Kd.C_alloc ?_ _) | (with_reducible refine Kd.C_drewN ?_ _) | (with_reducible refine Kd.C_drew ?_) | exact HR297_0.out)) | (with_reducible refine Kd.C_alloc ?_ _) | (with_reducible refine Kd.C_drewN ?_ _) | (with_reducible refine Kd.C_drew ?_))); (case side4 => exact HC297_0.out); rintro e w' ⟨rfl, ⟨nd, rfl⟩⟩; (try first | exact ⟨rfl, _, World.drewN_drewN _ _ _⟩ | exact ⟨rfl, _, Eq.trans (World.drewN_drewN _ _ _) (congrArg (World.drewN _) (Nat.add_assoc _ _ _))⟩)))
                              repeat (go_quiet (first | (go_at_call 25; (with_reducible refine (purflingref04_Ints.calls k3 _ _ (rd_L4 t284 x15_3) _ _ (rd_L4 t288 x15_3) false _ ?side1 ?side2 ?side3 ?side4 A39.out).mono ?_); (case side1 => repeat (first | exact (by repeat (first | (with_reducible exact HR296_0.out) | (with_reducible refine Kd.C_alloc ?_ _) | (with_reducible refine Kd.C_drewN ?_ _) | (with_reducible refine Kd.C_drew ?_) | exact HR296_0.out)) | (with_reducible refine Kd.C_alloc ?_ _) | (with_reducible refine Kd.C_drewN ?_ _) | (with_reducible refine Kd.C_drew ?_))); (case side2 => exact HC296_0.out); (case side3 => repeat (first | exact (by repeat (first | (with_reducible exact HR297_0.out) | (with_reducible refine Kd.C_alloc ?_ _) | (with_reducible refine Kd.C_drewN ?_ _) | (with_reducible refine Kd.C_drew ?_) | exact HR297_0.out)) | (with_reducible refine Kd.C_alloc ?_ _) | (with_reducible refine Kd.C_drewN ?_ _) | (with_reducible refine Kd.C_drew ?_))); (case side4 => exact HC297_0.out); rintro e w' ⟨rfl, ⟨nd, rfl⟩⟩; (try first | exact ⟨rfl, _, World.drewN_drewN _ _ _⟩ | exact ⟨rfl, _, Eq.trans (World.drewN_drewN _ _ _) (congrArg (World.drewN _) (Nat.add_assoc _ _ _))⟩))); try go_wp2_with (first | (go_at_call 25; (with_reducible refine (purflingref04_Ints.calls k3 _ _ (rd_L4 t284 x15_3) _ _ (rd_L4 t288 x15_3) false _ ?side1 ?side2 ?side3 ?side4 A39.out).mono ?_); (case side1 => repeat (first | exact (by repeat (first | (with_reducible exact HR296_0.out) | (with_reducible refine Kd.C_alloc ?_ _) | (with_reducible refine Kd.C_drewN ?_ _) | (with_reducible refine Kd.C_drew ?_) | exact HR296_0.out)) | (with_reducible refine Kd.C_alloc ?_ _) | (with_reducible refine Kd.C_drewN ?_ _) | (with_reducible refine Kd.C_drew ?_))); (case side2 => exact HC296_0.out); (case side3 => repeat (first | exact (by repeat (first | (with_reducible exact HR297_0.out) | (with_reducible refine Kd.C_alloc ?_ _) | (with_reducible refine Kd.C_drewN ?_ _) | (with_reducible refine Kd.C_drew ?_) | exact HR297_0.out)) | (with_reducible refine Kd.C_alloc ?_ _) | (with_reducible refine Kd.C_drewN ?_ _) | (with_reducible refine Kd.C_drew ?_))); (case side4 => exact HC297_0.out); rintro e w' ⟨rfl, ⟨nd, rfl⟩⟩; (try first | exact ⟨rfl, _, World.drewN_drewN _ _ _⟩ | exact ⟨rfl, _, Eq.trans (World.drewN_drewN _ _ _) (congrArg (World.drewN _) (Nat.add_assoc _ _ _))⟩))))
                              go_ret
                              exact ⟨by first | rfl | (simp [errW_none, errW_some] <;> rfl) | (simp only [← hji5]; first | rfl | (simp [errW_none, errW_some] <;> rfl)) | (simp [*, errW_none, errW_some] <;> rfl), by repeat (first | (with_reducible first | exact HB.out | apply below_alloc | apply pw_below_drewN | apply below_drew1) | exact HB.out)⟩
                          · rw [if_neg c38] at H
                            exact absurd H (by simp)
                        · rw [if_neg c37] at H
                          exact absurd H (by simp)
                      · rw [if_neg c36] at H
                        have c36b0 : decide (x15_3 < (t284.length : Int)) = false := decide_eq_false c36
                        clear c36
                        by_cases c57 : t279 = true
                        · subst c57
                          have H1 : (some (x14_3 == (t292.length : Int))) = some r := by rw [if_pos rfl] at H; exact H
                          clear H
                          have H := H1
                          clear H1
                          obtain rfl := Option.some.inj H
                          obtain ⟨Ao58, co58, eo58⟩ := Kd.S_slice HO_8.out
                          subst eo58
                          obtain ⟨Ao59, co59, eo59⟩ := Kd.R_slice HO_12.out
                          subst eo59
                          go_wp2
                          repeat (go_quiet (fail); try go_wp2)
                          go_ret
                          exact ⟨by first | rfl | (simp [errW_none, errW_some] <;> rfl) | (simp only [← hji5]; first | rfl | (simp [errW_none, errW_some] <;> rfl)) | (simp [*, errW_none, errW_some] <;> rfl), by repeat (first | (with_reducible first | exact HB.out | apply below_alloc | apply pw_below_drewN | apply below_drew1) | exact HB.out)⟩
                        · replace c57 := Bool.eq_false_iff.mpr c57
                          subst c57
                          have H1 : (some false) = some r := by rw [if_neg (show ¬ (false = true) by decide)] at H; exact H
                          clear H
                          have H := H1
                          clear H1
                          obtain rfl := Option.some.inj H
                          obtain ⟨Ao60, co60, eo60⟩ := Kd.S_slice HO_8.out
                          subst eo60
                          go_wp2
                          repeat (go_quiet (fail); try go_wp2)
                          go_ret
                          exact ⟨by first | rfl | (simp [errW_none, errW_some] <;> rfl) | (simp only [← hji5]; first | rfl | (simp [errW_none, errW_some] <;> rfl)) | (simp [*, errW_none, errW_some] <;> rfl), by repeat (first | (with_reducible first | exact HB.out | apply below_alloc | apply pw_below_drewN | apply below_drew1) | exact HB.out)⟩
    · rw [if_neg c7] at H
      exact absurd H (by simp)
  · rw [if_neg c6] at H
    exact absurd H (by simp)

end Go.Proofs.Ytfoocmmjefdojaa.K
