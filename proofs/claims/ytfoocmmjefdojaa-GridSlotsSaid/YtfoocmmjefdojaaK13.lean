-- PRINTED by print.py (a twelfth state) out of the translation. Not trusted: Lean checks it.
import Derived.Test.YtfoocmmjefdojaaK0
namespace Go.Proofs.Ytfoocmmjefdojaa.K
open Go.RowKit Go.Proofs.YtfoocmmjefdojaaW.PrintWords Go.Proofs.YtfoocmmjefdojaaW.PrintLast Go.Proofs.YtfoocmmjefdojaaW.PrintMore
attribute [local go_sem] max2_int min2_int max_two min_two max_three min_three max_four min_four   -- for this text's walks alone
set_option linter.unusedVariables false
set_option linter.unusedSimpArgs false

/-! ### purflingref07_Slots: function 23 -/
mutual
def purflingref07_Slots.j0 : Nat → List (S40) → Int → Int → Bool → Option ((List (List Int)) × Int)
  | 0, _, _, _, _ => none
  | k + 1, x0, x1, x2, x35 => if x35 = true then (some (([] : List (List Int)), 70)) else (purflingref07_Slots.l0 k x0 x1 x2 ([] : List (List Int)) 0)
def purflingref07_Slots.l0 : Nat → List (S40) → Int → Int → List (List Int) → Int → Option ((List (List Int)) × Int)
  | 0, _, _, _, _, _ => none
  | k + 1, x0, x1, x2, x8, x9 => if x9 < x1 then (purflingref07_Slots.l1 k x0 x1 x2 x8 x9 ([] : List Int) 0) else (purflingref07_Slots.l2 k x0 x1 x2 x8 0)
def purflingref07_Slots.l1 : Nat → List (S40) → Int → Int → List (List Int) → Int → List Int → Int → Option ((List (List Int)) × Int)
  | 0, _, _, _, _, _, _, _ => none
  | k + 1, x0, x1, x2, x8, x9, x10, x11 => if x11 < x2 then (if x10.length < 17592186044416 then (purflingref07_Slots.l1 k x0 x1 x2 x8 x9 (x10 ++ [(-1)]) (wrap64 (x11 + 1))) else (none)) else (if x8.length < 5864062014805 then (purflingref07_Slots.l0 k x0 x1 x2 (x8 ++ [x10]) (wrap64 (x9 + 1))) else (none))
def purflingref07_Slots.l2 : Nat → List (S40) → Int → Int → List (List Int) → Int → Option ((List (List Int)) × Int)
  | 0, _, _, _, _, _ => none
  | k + 1, x0, x1, x2, x8, x12 => if x12 < (x0.length : Int) then (if 0 ≤ x12 then (if ((rd_T40 x0 x12).f3) < 1 then (purflingref07_Slots.j4 k x0 x1 x2 x8 x12 true ((rd_T40 x0 x12).f0) ((rd_T40 x0 x12).f1) ((rd_T40 x0 x12).f2) ((rd_T40 x0 x12).f3) ((rd_T40 x0 x12).f4)) else (if ((rd_T40 x0 x12).f4) < 1 then (purflingref07_Slots.j4 k x0 x1 x2 x8 x12 true ((rd_T40 x0 x12).f0) ((rd_T40 x0 x12).f1) ((rd_T40 x0 x12).f2) ((rd_T40 x0 x12).f3) ((rd_T40 x0 x12).f4)) else (if ((rd_T40 x0 x12).f1) < 0 then (purflingref07_Slots.j4 k x0 x1 x2 x8 x12 true ((rd_T40 x0 x12).f0) ((rd_T40 x0 x12).f1) ((rd_T40 x0 x12).f2) ((rd_T40 x0 x12).f3) ((rd_T40 x0 x12).f4)) else (if ((rd_T40 x0 x12).f2) < 0 then (purflingref07_Slots.j4 k x0 x1 x2 x8 x12 true ((rd_T40 x0 x12).f0) ((rd_T40 x0 x12).f1) ((rd_T40 x0 x12).f2) ((rd_T40 x0 x12).f3) ((rd_T40 x0 x12).f4)) else (if ((rd_T40 x0 x12).f1) > x1 then (purflingref07_Slots.j4 k x0 x1 x2 x8 x12 true ((rd_T40 x0 x12).f0) ((rd_T40 x0 x12).f1) ((rd_T40 x0 x12).f2) ((rd_T40 x0 x12).f3) ((rd_T40 x0 x12).f4)) else (if ((rd_T40 x0 x12).f2) > x2 then (purflingref07_Slots.j4 k x0 x1 x2 x8 x12 true ((rd_T40 x0 x12).f0) ((rd_T40 x0 x12).f1) ((rd_T40 x0 x12).f2) ((rd_T40 x0 x12).f3) ((rd_T40 x0 x12).f4)) else (if ((rd_T40 x0 x12).f3) > (wrap64 (x1 - ((rd_T40 x0 x12).f1))) then (purflingref07_Slots.j4 k x0 x1 x2 x8 x12 true ((rd_T40 x0 x12).f0) ((rd_T40 x0 x12).f1) ((rd_T40 x0 x12).f2) ((rd_T40 x0 x12).f3) ((rd_T40 x0 x12).f4)) else (purflingref07_Slots.j4 k x0 x1 x2 x8 x12 (decide (((rd_T40 x0 x12).f4) > (wrap64 (x2 - ((rd_T40 x0 x12).f2))))) ((rd_T40 x0 x12).f0) ((rd_T40 x0 x12).f1) ((rd_T40 x0 x12).f2) ((rd_T40 x0 x12).f3) ((rd_T40 x0 x12).f4))))))))) else (none)) else (some (x8, 0))
def purflingref07_Slots.j4 : Nat → List (S40) → Int → Int → List (List Int) → Int → Bool → Int → Int → Int → Int → Int → Option ((List (List Int)) × Int)
  | 0, _, _, _, _, _, _, _, _, _, _, _ => none
  | k + 1, x0, x1, x2, x8, x12, x110, x270000, x270001, x270002, x270003, x270004 => if x110 = true then (some (([] : List (List Int)), 70)) else (purflingref07_Slots.l3 k x0 x1 x2 x8 x12 x270001 x270000 x270001 x270002 x270003 x270004)
def purflingref07_Slots.l3 : Nat → List (S40) → Int → Int → List (List Int) → Int → Int → Int → Int → Int → Int → Int → Option ((List (List Int)) × Int)
  | 0, _, _, _, _, _, _, _, _, _, _, _ => none
  | k + 1, x0, x1, x2, x8, x12, x14, x270000, x270001, x270002, x270003, x270004 => if x14 < (wrap64 (x270001 + x270003)) then (purflingref07_Slots.l4 k x0 x1 x2 x8 x12 x14 x270002 x270000 x270001 x270002 x270003 x270004) else (purflingref07_Slots.l2 k x0 x1 x2 x8 (wrap64 (x12 + 1)))
def purflingref07_Slots.l4 : Nat → List (S40) → Int → Int → List (List Int) → Int → Int → Int → Int → Int → Int → Int → Int → Option ((List (List Int)) × Int)
  | 0, _, _, _, _, _, _, _, _, _, _, _, _ => none
  | k + 1, x0, x1, x2, x8, x12, x14, x15, x270000, x270001, x270002, x270003, x270004 => if x15 < (wrap64 (x270002 + x270004)) then (if 0 ≤ x14 then (if x14 < (x8.length : Int) then (if 0 ≤ x15 then (if x15 < ((rd_L4 x8 x14).length : Int) then (if (rd (rd_L4 x8 x14) x15) ≥ 0 then (some (([] : List (List Int)), 70)) else (purflingref07_Slots.l4 k x0 x1 x2 (x8.set (x14 : Int).toNat ((rd_L4 x8 x14).set (x15 : Int).toNat x12)) x12 x14 (wrap64 (x15 + 1)) x270000 x270001 x270002 x270003 x270004)) else (none)) else (none)) else (none)) else (none)) else (purflingref07_Slots.l3 k x0 x1 x2 x8 x12 (wrap64 (x14 + 1)) x270000 x270001 x270002 x270003 x270004)
end
def purflingref07_Slots.f (k : Nat) (l0 : List (S40)) (a1 : Int) (a2 : Int) : Option ((List (List Int)) × Int) := if a1 < 0 then (purflingref07_Slots.j0 k l0 a1 a2 true) else (if a1 > 65536 then (purflingref07_Slots.j0 k l0 a1 a2 true) else (if a2 < 0 then (purflingref07_Slots.j0 k l0 a1 a2 true) else (if a2 > 10000 then (purflingref07_Slots.j0 k l0 a1 a2 true) else (purflingref07_Slots.j0 k l0 a1 a2 (decide ((wrap64 (a1 * a2)) > 1000000))))))
theorem purflingref07_Slots.mono_l : ∀ k, (∀ y0 y1 y2 y3, LeO (purflingref07_Slots.j0 k y0 y1 y2 y3) (purflingref07_Slots.j0 (k + 1) y0 y1 y2 y3)) ∧ (∀ y0 y1 y2 y3 y4, LeO (purflingref07_Slots.l0 k y0 y1 y2 y3 y4) (purflingref07_Slots.l0 (k + 1) y0 y1 y2 y3 y4)) ∧ (∀ y0 y1 y2 y3 y4 y5 y6, LeO (purflingref07_Slots.l1 k y0 y1 y2 y3 y4 y5 y6) (purflingref07_Slots.l1 (k + 1) y0 y1 y2 y3 y4 y5 y6)) ∧ (∀ y0 y1 y2 y3 y4, LeO (purflingref07_Slots.l2 k y0 y1 y2 y3 y4) (purflingref07_Slots.l2 (k + 1) y0 y1 y2 y3 y4)) ∧ (∀ y0 y1 y2 y3 y4 y5 y6 y7 y8 y9 y10, LeO (purflingref07_Slots.j4 k y0 y1 y2 y3 y4 y5 y6 y7 y8 y9 y10) (purflingref07_Slots.j4 (k + 1) y0 y1 y2 y3 y4 y5 y6 y7 y8 y9 y10)) ∧ (∀ y0 y1 y2 y3 y4 y5 y6 y7 y8 y9 y10, LeO (purflingref07_Slots.l3 k y0 y1 y2 y3 y4 y5 y6 y7 y8 y9 y10) (purflingref07_Slots.l3 (k + 1) y0 y1 y2 y3 y4 y5 y6 y7 y8 y9 y10)) ∧ (∀ y0 y1 y2 y3 y4 y5 y6 y7 y8 y9 y10 y11, LeO (purflingref07_Slots.l4 k y0 y1 y2 y3 y4 y5 y6 y7 y8 y9 y10 y11) (purflingref07_Slots.l4 (k + 1) y0 y1 y2 y3 y4 y5 y6 y7 y8 y9 y10 y11))
  | 0 => ⟨fun _ _ _ _ r h => by simp [purflingref07_Slots.j0] at h, fun _ _ _ _ _ r h => by simp [purflingref07_Slots.l0] at h, fun _ _ _ _ _ _ _ r h => by simp [purflingref07_Slots.l1] at h, fun _ _ _ _ _ r h => by simp [purflingref07_Slots.l2] at h, fun _ _ _ _ _ _ _ _ _ _ _ r h => by simp [purflingref07_Slots.j4] at h, fun _ _ _ _ _ _ _ _ _ _ _ r h => by simp [purflingref07_Slots.l3] at h, fun _ _ _ _ _ _ _ _ _ _ _ _ r h => by simp [purflingref07_Slots.l4] at h⟩
  | k + 1 => by
    obtain ⟨ih0, ih1, ih2, ih3, ih4, ih5, ih6⟩ := purflingref07_Slots.mono_l k
    refine ⟨?_, ?_, ?_, ?_, ?_, ?_, ?_⟩
    · intro y0 y1 y2 y3
      unfold purflingref07_Slots.j0
      repeat' first
      | (with_reducible exact ih0 _ _ _ _)
      | (with_reducible exact ih1 _ _ _ _ _)
      | (with_reducible exact ih2 _ _ _ _ _ _ _)
      | (with_reducible exact ih3 _ _ _ _ _)
      | (with_reducible exact ih4 _ _ _ _ _ _ _ _ _ _ _)
      | (with_reducible exact ih5 _ _ _ _ _ _ _ _ _ _ _)
      | (with_reducible exact ih6 _ _ _ _ _ _ _ _ _ _ _ _)
      | (with_reducible exact LeO.refl _)
      | (with_reducible exact LeO.none _)
      | (with_reducible refine LeO.ite ?_ ?_)
      | (with_reducible refine LeO.bind ?_ (fun _ => ?_))
      | exact ih0 _ _ _ _
      | exact ih1 _ _ _ _ _
      | exact ih2 _ _ _ _ _ _ _
      | exact ih3 _ _ _ _ _
      | exact ih4 _ _ _ _ _ _ _ _ _ _ _
      | exact ih5 _ _ _ _ _ _ _ _ _ _ _
      | exact ih6 _ _ _ _ _ _ _ _ _ _ _ _
      | exact LeO.none _
      | refine LeO.ite ?_ ?_
      | refine LeO.bind ?_ (fun _ => ?_)
    · intro y0 y1 y2 y3 y4
      unfold purflingref07_Slots.l0
      repeat' first
      | (with_reducible exact ih0 _ _ _ _)
      | (with_reducible exact ih1 _ _ _ _ _)
      | (with_reducible exact ih2 _ _ _ _ _ _ _)
      | (with_reducible exact ih3 _ _ _ _ _)
      | (with_reducible exact ih4 _ _ _ _ _ _ _ _ _ _ _)
      | (with_reducible exact ih5 _ _ _ _ _ _ _ _ _ _ _)
      | (with_reducible exact ih6 _ _ _ _ _ _ _ _ _ _ _ _)
      | (with_reducible exact LeO.refl _)
      | (with_reducible exact LeO.none _)
      | (with_reducible refine LeO.ite ?_ ?_)
      | (with_reducible refine LeO.bind ?_ (fun _ => ?_))
      | exact ih0 _ _ _ _
      | exact ih1 _ _ _ _ _
      | exact ih2 _ _ _ _ _ _ _
      | exact ih3 _ _ _ _ _
      | exact ih4 _ _ _ _ _ _ _ _ _ _ _
      | exact ih5 _ _ _ _ _ _ _ _ _ _ _
      | exact ih6 _ _ _ _ _ _ _ _ _ _ _ _
      | exact LeO.none _
      | refine LeO.ite ?_ ?_
      | refine LeO.bind ?_ (fun _ => ?_)
    · intro y0 y1 y2 y3 y4 y5 y6
      unfold purflingref07_Slots.l1
      repeat' first
      | (with_reducible exact ih0 _ _ _ _)
      | (with_reducible exact ih1 _ _ _ _ _)
      | (with_reducible exact ih2 _ _ _ _ _ _ _)
      | (with_reducible exact ih3 _ _ _ _ _)
      | (with_reducible exact ih4 _ _ _ _ _ _ _ _ _ _ _)
      | (with_reducible exact ih5 _ _ _ _ _ _ _ _ _ _ _)
      | (with_reducible exact ih6 _ _ _ _ _ _ _ _ _ _ _ _)
      | (with_reducible exact LeO.refl _)
      | (with_reducible exact LeO.none _)
      | (with_reducible refine LeO.ite ?_ ?_)
      | (with_reducible refine LeO.bind ?_ (fun _ => ?_))
      | exact ih0 _ _ _ _
      | exact ih1 _ _ _ _ _
      | exact ih2 _ _ _ _ _ _ _
      | exact ih3 _ _ _ _ _
      | exact ih4 _ _ _ _ _ _ _ _ _ _ _
      | exact ih5 _ _ _ _ _ _ _ _ _ _ _
      | exact ih6 _ _ _ _ _ _ _ _ _ _ _ _
      | exact LeO.none _
      | refine LeO.ite ?_ ?_
      | refine LeO.bind ?_ (fun _ => ?_)
    · intro y0 y1 y2 y3 y4
      unfold purflingref07_Slots.l2
      repeat' first
      | (with_reducible exact ih0 _ _ _ _)
      | (with_reducible exact ih1 _ _ _ _ _)
      | (with_reducible exact ih2 _ _ _ _ _ _ _)
      | (with_reducible exact ih3 _ _ _ _ _)
      | (with_reducible exact ih4 _ _ _ _ _ _ _ _ _ _ _)
      | (with_reducible exact ih5 _ _ _ _ _ _ _ _ _ _ _)
      | (with_reducible exact ih6 _ _ _ _ _ _ _ _ _ _ _ _)
      | (with_reducible exact LeO.refl _)
      | (with_reducible exact LeO.none _)
      | (with_reducible refine LeO.ite ?_ ?_)
      | (with_reducible refine LeO.bind ?_ (fun _ => ?_))
      | exact ih0 _ _ _ _
      | exact ih1 _ _ _ _ _
      | exact ih2 _ _ _ _ _ _ _
      | exact ih3 _ _ _ _ _
      | exact ih4 _ _ _ _ _ _ _ _ _ _ _
      | exact ih5 _ _ _ _ _ _ _ _ _ _ _
      | exact ih6 _ _ _ _ _ _ _ _ _ _ _ _
      | exact LeO.none _
      | refine LeO.ite ?_ ?_
      | refine LeO.bind ?_ (fun _ => ?_)
    · intro y0 y1 y2 y3 y4 y5 y6 y7 y8 y9 y10
      unfold purflingref07_Slots.j4
      repeat' first
      | (with_reducible exact ih0 _ _ _ _)
      | (with_reducible exact ih1 _ _ _ _ _)
      | (with_reducible exact ih2 _ _ _ _ _ _ _)
      | (with_reducible exact ih3 _ _ _ _ _)
      | (with_reducible exact ih4 _ _ _ _ _ _ _ _ _ _ _)
      | (with_reducible exact ih5 _ _ _ _ _ _ _ _ _ _ _)
      | (with_reducible exact ih6 _ _ _ _ _ _ _ _ _ _ _ _)
      | (with_reducible exact LeO.refl _)
      | (with_reducible exact LeO.none _)
      | (with_reducible refine LeO.ite ?_ ?_)
      | (with_reducible refine LeO.bind ?_ (fun _ => ?_))
      | exact ih0 _ _ _ _
      | exact ih1 _ _ _ _ _
      | exact ih2 _ _ _ _ _ _ _
      | exact ih3 _ _ _ _ _
      | exact ih4 _ _ _ _ _ _ _ _ _ _ _
      | exact ih5 _ _ _ _ _ _ _ _ _ _ _
      | exact ih6 _ _ _ _ _ _ _ _ _ _ _ _
      | exact LeO.none _
      | refine LeO.ite ?_ ?_
      | refine LeO.bind ?_ (fun _ => ?_)
    · intro y0 y1 y2 y3 y4 y5 y6 y7 y8 y9 y10
      unfold purflingref07_Slots.l3
      repeat' first
      | (with_reducible exact ih0 _ _ _ _)
      | (with_reducible exact ih1 _ _ _ _ _)
      | (with_reducible exact ih2 _ _ _ _ _ _ _)
      | (with_reducible exact ih3 _ _ _ _ _)
      | (with_reducible exact ih4 _ _ _ _ _ _ _ _ _ _ _)
      | (with_reducible exact ih5 _ _ _ _ _ _ _ _ _ _ _)
      | (with_reducible exact ih6 _ _ _ _ _ _ _ _ _ _ _ _)
      | (with_reducible exact LeO.refl _)
      | (with_reducible exact LeO.none _)
      | (with_reducible refine LeO.ite ?_ ?_)
      | (with_reducible refine LeO.bind ?_ (fun _ => ?_))
      | exact ih0 _ _ _ _
      | exact ih1 _ _ _ _ _
      | exact ih2 _ _ _ _ _ _ _
      | exact ih3 _ _ _ _ _
      | exact ih4 _ _ _ _ _ _ _ _ _ _ _
      | exact ih5 _ _ _ _ _ _ _ _ _ _ _
      | exact ih6 _ _ _ _ _ _ _ _ _ _ _ _
      | exact LeO.none _
      | refine LeO.ite ?_ ?_
      | refine LeO.bind ?_ (fun _ => ?_)
    · intro y0 y1 y2 y3 y4 y5 y6 y7 y8 y9 y10 y11
      unfold purflingref07_Slots.l4
      repeat' first
      | (with_reducible exact ih0 _ _ _ _)
      | (with_reducible exact ih1 _ _ _ _ _)
      | (with_reducible exact ih2 _ _ _ _ _ _ _)
      | (with_reducible exact ih3 _ _ _ _ _)
      | (with_reducible exact ih4 _ _ _ _ _ _ _ _ _ _ _)
      | (with_reducible exact ih5 _ _ _ _ _ _ _ _ _ _ _)
      | (with_reducible exact ih6 _ _ _ _ _ _ _ _ _ _ _ _)
      | (with_reducible exact LeO.refl _)
      | (with_reducible exact LeO.none _)
      | (with_reducible refine LeO.ite ?_ ?_)
      | (with_reducible refine LeO.bind ?_ (fun _ => ?_))
      | exact ih0 _ _ _ _
      | exact ih1 _ _ _ _ _
      | exact ih2 _ _ _ _ _ _ _
      | exact ih3 _ _ _ _ _
      | exact ih4 _ _ _ _ _ _ _ _ _ _ _
      | exact ih5 _ _ _ _ _ _ _ _ _ _ _
      | exact ih6 _ _ _ _ _ _ _ _ _ _ _ _
      | exact LeO.none _
      | refine LeO.ite ?_ ?_
      | refine LeO.bind ?_ (fun _ => ?_)
theorem purflingref07_Slots.mono : ∀ a0 a1 a2 k, LeO (purflingref07_Slots.f k a0 a1 a2) (purflingref07_Slots.f (k + 1) a0 a1 a2) := by
  intro a0 a1 a2 k
  obtain ⟨ih0, ih1, ih2, ih3, ih4, ih5, ih6⟩ := purflingref07_Slots.mono_l k
  unfold purflingref07_Slots.f
  repeat' first
      | (with_reducible exact ih0 _ _ _ _)
      | (with_reducible exact ih1 _ _ _ _ _)
      | (with_reducible exact ih2 _ _ _ _ _ _ _)
      | (with_reducible exact ih3 _ _ _ _ _)
      | (with_reducible exact ih4 _ _ _ _ _ _ _ _ _ _ _)
      | (with_reducible exact ih5 _ _ _ _ _ _ _ _ _ _ _)
      | (with_reducible exact ih6 _ _ _ _ _ _ _ _ _ _ _ _)
      | (with_reducible exact LeO.refl _)
      | (with_reducible exact LeO.none _)
      | (with_reducible refine LeO.ite ?_ ?_)
      | (with_reducible refine LeO.bind ?_ (fun _ => ?_))
      | exact ih0 _ _ _ _
      | exact ih1 _ _ _ _ _
      | exact ih2 _ _ _ _ _ _ _
      | exact ih3 _ _ _ _ _
      | exact ih4 _ _ _ _ _ _ _ _ _ _ _
      | exact ih5 _ _ _ _ _ _ _ _ _ _ _
      | exact ih6 _ _ _ _ _ _ _ _ _ _ _ _
      | exact LeO.none _
      | refine LeO.ite ?_ ?_
      | refine LeO.bind ?_ (fun _ => ?_)
set_option maxHeartbeats 8000000 in
set_option maxRecDepth 100000 in
theorem purflingref07_Slots.calls (k : Nat) (A0 : Option Addr) (c0 : Nat) (l0 : List (S40)) (a1 : Int) (a2 : Int) (r1 : List (List Int)) (r2 : Int) (w : World) (hr0 : Kd.C k40 w A0 l0.length l0) (hc0 : l0.length ≤ c0) (h : purflingref07_Slots.f k l0 a1 a2 = some (r1, r2)) :
    Calls Try.prog 23 #[.slice A0 l0.length c0, .int .i64 a1, .int .i64 a2] w fun e w' => ∃ v0_ : Value, e = .returned (.tuple #[v0_, .int .i64 r2]) ∧ Kd.S (Kd.slice 3 (Kd.int .i64)) 23 w' w.heap.size (fun _ => True) v0_ r1 ∧ Below w.heap.size w w' := by
  have hu40 := Try.underlying40
  have HR0 := Aside0.mk hr0
  have HC0 := Aside0.mk hc0
  clear hr0 hc0
  have HB := Aside0.mk (Below.refl w.heap.size w)
  have H : (if a1 < 0 then (purflingref07_Slots.j0 k l0 a1 a2 true) else (if a1 > 65536 then (purflingref07_Slots.j0 k l0 a1 a2 true) else (if a2 < 0 then (purflingref07_Slots.j0 k l0 a1 a2 true) else (if a2 > 10000 then (purflingref07_Slots.j0 k l0 a1 a2 true) else (purflingref07_Slots.j0 k l0 a1 a2 (decide ((wrap64 (a1 * a2)) > 1000000))))))) = some (r1, r2) := h
  clear h
  have HC4 := Aside0.mk H
  clear H
  go_enter Try.func23, Try.ntmps23
  go_upto_region 1 with (fail)
  go_cut [35] (fun v35 wc => ∃ (kq : Nat) (x35_3 : Bool), v35 = .bool x35_3 ∧ Aside0 (purflingref07_Slots.j0 kq l0 a1 a2 x35_3 = some (r1, r2)) ∧ Aside0 (kq ≤ k) ∧ Aside0 (Below w.heap.size w wc))
  case first =>
    have H := HC4.out
    clear HC4
    by_cases c5 : a1 < 0
    · rw [if_pos c5] at H
      have c5b0 : decide (a1 < 0) = true := decide_eq_true c5
      clear c5
      (first | rw [c5b0] | (simp only [i64_w, i32_w]; rw [c5b0]) | skip)
      have H' := Aside0.mk H
      clear H
      go_wp2
      go_meet
      case rel => exact ⟨_, (true), (by first | rfl | (simp; done) | (simp [*]; done)), H', ⟨by first | omega | exact Nat.le_refl _⟩, ⟨by repeat (first | (with_reducible first | exact HB.out | apply below_alloc | apply pw_below_drewN | apply below_drew1) | exact HB.out)⟩⟩
    · rw [if_neg c5] at H
      have c5b0 : decide (a1 < 0) = false := decide_eq_false c5
      clear c5
      (first | rw [c5b0] | (simp only [i64_w, i32_w]; rw [c5b0]) | skip)
      by_cases c6 : a1 > 65536
      · rw [if_pos c6] at H
        have c6b0 : decide (65536 < a1) = true := decide_eq_true c6
        clear c6
        have H' := Aside0.mk H
        clear H
        go_wp2
        go_meet
        case rel => exact ⟨_, (true), (by first | rfl | (simp; done) | (simp [*]; done)), H', ⟨by first | omega | exact Nat.le_refl _⟩, ⟨by repeat (first | (with_reducible first | exact HB.out | apply below_alloc | apply pw_below_drewN | apply below_drew1) | exact HB.out)⟩⟩
      · rw [if_neg c6] at H
        have c6b0 : decide (65536 < a1) = false := decide_eq_false c6
        clear c6
        by_cases c7 : a2 < 0
        · rw [if_pos c7] at H
          have c7b0 : decide (a2 < 0) = true := decide_eq_true c7
          clear c7
          have H' := Aside0.mk H
          clear H
          go_wp2
          go_meet
          case rel => exact ⟨_, (true), (by first | rfl | (simp; done) | (simp [*]; done)), H', ⟨by first | omega | exact Nat.le_refl _⟩, ⟨by repeat (first | (with_reducible first | exact HB.out | apply below_alloc | apply pw_below_drewN | apply below_drew1) | exact HB.out)⟩⟩
        · rw [if_neg c7] at H
          have c7b0 : decide (a2 < 0) = false := decide_eq_false c7
          clear c7
          by_cases c8 : a2 > 10000
          · rw [if_pos c8] at H
            have c8b0 : decide (10000 < a2) = true := decide_eq_true c8
            clear c8
            have H' := Aside0.mk H
            clear H
            go_wp2
            go_meet
            case rel => exact ⟨_, (true), (by first | rfl | (simp; done) | (simp [*]; done)), H', ⟨by first | omega | exact Nat.le_refl _⟩, ⟨by repeat (first | (with_reducible first | exact HB.out | apply below_alloc | apply pw_below_drewN | apply below_drew1) | exact HB.out)⟩⟩
          · rw [if_neg c8] at H
            have c8b0 : decide (10000 < a2) = false := decide_eq_false c8
            clear c8
            have H' := Aside0.mk H
            clear H
            go_wp2
            go_meet
            case rel => exact ⟨_, (decide ((wrap64 (a1 * a2)) > 1000000)), (by first | rfl | (simp; done) | (simp [*]; done)), H', ⟨by first | omega | exact Nat.le_refl _⟩, ⟨by repeat (first | (with_reducible first | exact HB.out | apply below_alloc | apply pw_below_drewN | apply below_drew1) | exact HB.out)⟩⟩
  case rest =>
    clear HC4
    try clear c2
    try clear p2
    try clear c5
    try clear c5b0
    try clear c6
    try clear c6b0
    try clear p6
    try clear c7
    try clear c7b0
    try clear c8
    try clear c8b0
    obtain ⟨kq, x35_3, rfl, HA, HJ3, HB⟩ := hcut
    cases kq with
    | zero => exact absurd HA.out (by simp [purflingref07_Slots.j0])
    | succ kj3 =>
      have H := HA.out
      clear HA
      simp only [purflingref07_Slots.j0] at H
      by_cases c9 : x35_3 = true
      · subst c9
        have H1 : (some (([] : List (List Int)), 70)) = some (r1, r2) := by rw [if_pos rfl] at H; exact H
        clear H
        have H := H1
        clear H1
        simp only [Option.some.injEq, Prod.mk.injEq] at H
        obtain ⟨rfl, rfl⟩ := H
        go_wp2
        go_ret2
        exact ⟨_, by first | rfl | (simp [errW_none, errW_some] <;> rfl) | (simp [*, errW_none, errW_some] <;> rfl), by first | exact Kd.S_nil _ _ _ _ _ | exact Kd.N_nil _ _ _ _ _ | exact Kd.V_nil _ _ _ _ _ | exact Kd.Q_nil _ _ _ _ _ | exact Kd.R_nil _ _ _ _ _, by repeat (first | (with_reducible first | exact HB.out | apply below_alloc | apply pw_below_drewN | apply below_drew1) | exact HB.out)⟩
      · replace c9 := Bool.eq_false_iff.mpr c9
        subst c9
        have H1 : (purflingref07_Slots.l0 kj3 l0 a1 a2 ([] : List (List Int)) 0) = some (r1, r2) := by rw [if_neg (show ¬ (false = true) by decide)] at H; exact H
        clear H
        have H := H1
        clear H1
        have H' := Aside0.mk H
        clear H
        go_wp2
        go_loopg [8, 9] kj3 (fun kq v8 v9 w' => ∃ (x8_2 : List (List Int)) (x9_2 : Int), v9 = .int .i64 x9_2 ∧ Aside0 (purflingref07_Slots.l0 kq l0 a1 a2 x8_2 x9_2 = some (r1, r2)) ∧ Aside0 (kq ≤ kj3) ∧ Aside0 (Kd.S (Kd.slice 3 (Kd.int .i64)) 23 w' w.heap.size (fun _ => True) v8 x8_2) ∧ Aside0 (Below w.heap.size w w'))
        case atStart => exact ⟨(([] : List (List Int))), (0), (by first | rfl | (simp; done) | (simp [*]; done)), H', ⟨Nat.le_refl _⟩, ⟨by first | exact Kd.S_nil _ _ _ _ _ | exact Kd.N_nil _ _ _ _ _ | exact Kd.V_nil _ _ _ _ _ | exact Kd.Q_nil _ _ _ _ _ | exact Kd.R_nil _ _ _ _ _⟩, ⟨by repeat (first | (with_reducible first | exact HB.out | apply below_alloc | apply pw_below_drewN | apply below_drew1) | exact HB.out)⟩⟩
        case round =>
          clear H'
          try clear c2
          try clear p2
          try clear c5
          try clear c5b0
          try clear c6
          try clear c6b0
          try clear p6
          try clear c7
          try clear c7b0
          try clear c8
          try clear c8b0
          try clear c9
          try clear p2
          try clear p6
          obtain ⟨x8_2, x9_2, rfl, HA, HK2, HO_8, HB⟩ := hrel
          cases gk with
          | zero => exact absurd HA.out (by simp [purflingref07_Slots.l0])
          | succ k2 =>
            have H := HA.out
            clear HA
            simp only [purflingref07_Slots.l0] at H
            by_cases c10 : x9_2 < a1
            · rw [if_pos c10] at H
              have c10b0 : decide (x9_2 < a1) = true := decide_eq_true c10
              clear c10
              have H' := Aside0.mk H
              clear H
              go_wp2
              go_loopg [10, 11] k2 (fun kq v10 v11 w' => ∃ (x10_3 : List Int) (x11_3 : Int), v11 = .int .i64 x11_3 ∧ Aside0 (purflingref07_Slots.l1 kq l0 a1 a2 x8_2 x9_2 x10_3 x11_3 = some (r1, r2)) ∧ Aside0 (kq ≤ k2) ∧ Aside0 (Kd.S (Kd.slice 3 (Kd.int .i64)) 23 w' w.heap.size (fun k_ => some k_ ≠ (v10 : Value).ownBlock) u8 x8_2) ∧ Aside0 (Kd.R (Kd.int .i64) 3 w' w.heap.size (fun _ => True) v10 x10_3) ∧ Aside0 (Below w.heap.size w w'))
              case atStart => exact ⟨(([] : List Int)), (0), (by first | rfl | (simp; done) | (simp [*]; done)), H', ⟨Nat.le_refl _⟩, ⟨by (with_reducible repeat (first | apply Kd.S_alloc | apply Kd.S_drewN | apply Kd.S_drew)); exact Kd.S_mono HO_8.out (fun _ hk => (by simp [Value.ownBlock]))⟩, ⟨by first | exact Kd.R_nil _ _ _ _ _ | exact Kd.N_nil _ _ _ _ _ | exact Kd.V_nil _ _ _ _ _ | exact Kd.Q_nil _ _ _ _ _ | exact Kd.S_nil _ _ _ _ _⟩, ⟨by repeat (first | (with_reducible first | exact HB.out | apply below_alloc | apply pw_below_drewN | apply below_drew1) | exact HB.out)⟩⟩
              case round =>
                clear H'
                try clear c1
                try clear c2
                try clear p2
                try clear c5
                try clear c5b0
                try clear c6
                try clear c6b0
                try clear p6
                try clear c7
                try clear c7b0
                try clear c8
                try clear c8b0
                try clear c9
                try clear c10
                try clear c10b0
                try clear p2
                try clear p6
                obtain ⟨x10_3, x11_3, rfl, HA, HK3, HO_8, HO_10, HB⟩ := hrel
                cases gk with
                | zero => exact absurd HA.out (by simp [purflingref07_Slots.l1])
                | succ k3 =>
                  have H := HA.out
                  clear HA
                  simp only [purflingref07_Slots.l1] at H
                  by_cases c11 : x11_3 < a2
                  · rw [if_pos c11] at H
                    have c11b0 : decide (x11_3 < a2) = true := decide_eq_true c11
                    clear c11
                    by_cases c12 : x10_3.length < 17592186044416
                    · rw [if_pos c12] at H
                      have LMc12 := Aside0.mk c12
                      clear c12
                      obtain ⟨y262, hy262⟩ : ∃ y_ : List Int, y_ = (x10_3 ++ [(-1)]) := ⟨_, rfl⟩
                      replace H : (purflingref07_Slots.l1 k3 l0 a1 a2 x8_2 x9_2 y262 (wrap64 (x11_3 + 1))) = some (r1, r2) := by first | (rw [hy262]; with_reducible exact H) | (have H2_ := (Option.bind_some _ _).symm.trans H; rw [hy262]; with_reducible exact H2_) | (have H2_ := (Option.bind_some _ _).symm.trans H; with_reducible exact H2_) | with_reducible exact H | (rw [hy262]; exact H) | exact H
                      have Ny262 := Aside0.mk hy262
                      clear hy262
                      have H' := Aside0.mk H
                      clear H
                      go_wp2_with (first | ((with_reducible refine gate_builtin (b := .append) (xs := #[.tmp 46, .tmp 47]) rfl ?_); at_builtin; refine Kd.R_append (Kd.int .i64) (w0 := w) w.heap.size rfl (.tmp 46) (.tmp 47) 23 3 (.int .i64 0) 8 rfl Try.underlying23 info3 rfl (by decide) (by omega) u10 x10_3 (-1) [.int .i64 (-1)] (fun _ => True) (fun _ => False) rfl rfl ?aP (fun _ hk => hk.elim) ?aF ?aO ?aB ?aS ?aL ?_; (case aP => exact rfl); (case aB => exact (by repeat (first | (with_reducible first | exact HB.out | apply below_alloc | apply pw_below_drewN | apply below_drew1) | exact HB.out))); (case aF => exact (fun _ _ => trivial)); (case aO => exact (by (with_reducible repeat (first | apply Kd.R_alloc | apply Kd.R_drewN | apply Kd.R_drew)); exact HO_10.out)); (case aS => exact (below_size (by repeat (first | (with_reducible first | exact HB.out | apply below_alloc | apply pw_below_drewN | apply below_drew1) | exact HB.out)))); (case aL => have := LMc12.out; omega); intro v263 w13 ho hb hg hat; rw [← Ny262.out] at ho; have n0_ := Aside0.mk (Kd.S_after (ok := (fun _ => True)) (by (with_reducible repeat (first | apply Kd.S_alloc | apply Kd.S_drewN | apply Kd.S_drew)); exact Kd.S_mono HO_8.out (fun _ hk => ⟨trivial, hk⟩)) hg hat); have n1_ := Aside0.mk (hb); have n2_ := Aside0.mk (ho); clear HO_8; clear HB; clear HO_10; have HO_8 := n0_; have HB := n1_; have HO264 := n2_; clear n0_ n1_ n2_; clear ho hb hg hat))
                      go_roundg k3
                      case measure => have := HJ3.out; have := HK2.out; have := HK3.out; omega
                      case rel => exact ⟨(y262), (wrap64 (x11_3 + 1)), (by first | rfl | (simp; done) | (simp [*]; done)), H', ⟨by have := HJ3.out; have := HK2.out; have := HK3.out; omega⟩, ⟨by (with_reducible repeat (first | apply Kd.S_alloc | apply Kd.S_drewN | apply Kd.S_drew)); exact Kd.S_mono HO_8.out (fun _ hk => hk.2)⟩, ⟨by (with_reducible repeat (first | apply Kd.R_alloc | apply Kd.R_drewN | apply Kd.R_drew)); exact HO264.out⟩, ⟨by repeat (first | (with_reducible first | exact HB.out | apply below_alloc | apply pw_below_drewN | apply below_drew1) | exact HB.out)⟩⟩
                    · rw [if_neg c12] at H
                      exact absurd H (by simp)
                  · rw [if_neg c11] at H
                    have c11b0 : decide (x11_3 < a2) = false := decide_eq_false c11
                    clear c11
                    by_cases c14 : x8_2.length < 5864062014805
                    · rw [if_pos c14] at H
                      have LMc14 := Aside0.mk c14
                      clear c14
                      obtain ⟨y265, hy265⟩ : ∃ y_ : List (List Int), y_ = (x8_2 ++ [x10_3]) := ⟨_, rfl⟩
                      replace H : (purflingref07_Slots.l0 k3 l0 a1 a2 y265 (wrap64 (x9_2 + 1))) = some (r1, r2) := by first | (rw [hy265]; with_reducible exact H) | (have H2_ := (Option.bind_some _ _).symm.trans H; rw [hy265]; with_reducible exact H2_) | (have H2_ := (Option.bind_some _ _).symm.trans H; with_reducible exact H2_) | with_reducible exact H | (rw [hy265]; exact H) | exact H
                      have Ny265 := Aside0.mk hy265
                      clear hy265
                      have H' := Aside0.mk H
                      clear H
                      obtain ⟨Ao16, co16, eo16⟩ := Kd.R_slice HO_10.out
                      subst eo16
                      go_wp2_with (first | ((with_reducible refine gate_builtin (b := .append) (xs := #[.tmp 49, .tmp 51]) rfl ?_); at_builtin; refine Kd.S_append (Kd.slice 3 (Kd.int .i64)) (w0 := w) w.heap.size rfl (.tmp 49) (.tmp 51) 36 23 (.slice none 0 0) 24 rfl Try.underlying36 info23 rfl (by decide) (by omega) u8 x8_2 x10_3 [.slice Ao16 x10_3.length co16] (fun _ => True) (fun k_ => some k_ = (.slice Ao16 x10_3.length co16 : Value).ownBlock) rfl rfl ?aP (fun k_ hk_ => ((Kd.R_mono (ok' := fun k_ => ((fun _ => True)) k_ ∧ some k_ ≠ (u8 : Value).ownBlock) (Kd.R_apart' (HO_10.out) (Kd.S_typed HO_8.out) (by decide)) (fun k_ hk => ⟨trivial, hk.2⟩))).1 k_ hk_.symm) ?aF ?aO ?aB ?aS ?aL ?_; (case aP => exact Kd.M_row (Kd.R_mono (Kd.R_tight rfl (Kd.R_mono (ok' := fun k_ => ((fun _ => True)) k_ ∧ some k_ ≠ (u8 : Value).ownBlock) (Kd.R_apart' (HO_10.out) (Kd.S_typed HO_8.out) (by decide)) (fun k_ hk => ⟨trivial, hk.2⟩))) (fun _ h_ => h_))); (case aB => exact (by repeat (first | (with_reducible first | exact HB.out | apply below_alloc | apply pw_below_drewN | apply below_drew1) | exact HB.out))); (case aF => exact (fun _ _ => trivial)); (case aO => exact (by (with_reducible repeat (first | apply Kd.S_alloc | apply Kd.S_drewN | apply Kd.S_drew)); exact Kd.S_mono HO_8.out (fun k_ hk => ⟨trivial, fun e_ => hk e_⟩))); (case aS => exact (below_size (by repeat (first | (with_reducible first | exact HB.out | apply below_alloc | apply pw_below_drewN | apply below_drew1) | exact HB.out)))); (case aL => have := LMc14.out; omega); intro v266 w15 ho hb hg hat; rw [← Ny265.out] at ho; have n0_ := Aside0.mk (hb); have n1_ := Aside0.mk (ho); clear HB; clear HO_8; clear HO_10; have HB := n0_; have HO267 := n1_; clear n0_ n1_; clear ho hb hg hat))
                      go_roundg k3
                      case measure => have := HJ3.out; have := HK2.out; have := HK3.out; omega
                      case rel => exact ⟨(y265), (wrap64 (x9_2 + 1)), (by first | rfl | (simp; done) | (simp [*]; done)), H', ⟨by have := HJ3.out; have := HK2.out; have := HK3.out; omega⟩, ⟨by (with_reducible repeat (first | apply Kd.S_alloc | apply Kd.S_drewN | apply Kd.S_drew)); exact HO267.out⟩, ⟨by repeat (first | (with_reducible first | exact HB.out | apply below_alloc | apply pw_below_drewN | apply below_drew1) | exact HB.out)⟩⟩
                    · rw [if_neg c14] at H
                      exact absurd H (by simp)
            · rw [if_neg c10] at H
              have c10b0 : decide (x9_2 < a1) = false := decide_eq_false c10
              clear c10
              have H' := Aside0.mk H
              clear H
              go_wp2
              go_loopg [12] k2 (fun kq v12 w' => ∃ (x8_3 : List (List Int)) (x12_3 : Int), v12 = .int .i64 x12_3 ∧ Aside0 (purflingref07_Slots.l2 kq l0 a1 a2 x8_3 x12_3 = some (r1, r2)) ∧ Aside0 (kq ≤ k2) ∧ Aside0 (Kd.S (Kd.slice 3 (Kd.int .i64)) 23 w' w.heap.size (fun _ => True) u8 x8_3) ∧ Aside0 (Below w.heap.size w w'))
              case atStart => exact ⟨(x8_2), (0), (by first | rfl | (simp; done) | (simp [*]; done)), H', ⟨Nat.le_refl _⟩, ⟨by (with_reducible repeat (first | apply Kd.S_alloc | apply Kd.S_drewN | apply Kd.S_drew)); exact HO_8.out⟩, ⟨by repeat (first | (with_reducible first | exact HB.out | apply below_alloc | apply pw_below_drewN | apply below_drew1) | exact HB.out)⟩⟩
              case round =>
                clear H'
                try clear c1
                try clear c2
                try clear p2
                try clear c5
                try clear c5b0
                try clear c6
                try clear c6b0
                try clear p6
                try clear c7
                try clear c7b0
                try clear c8
                try clear c8b0
                try clear c9
                try clear c10
                try clear c10b0
                try clear c11
                try clear c11b0
                try clear c12
                try clear c14
                try clear p2
                try clear p6
                obtain ⟨x8_3, x12_3, rfl, HA, HK3, HO_8, HB⟩ := hrel
                cases gk with
                | zero => exact absurd HA.out (by simp [purflingref07_Slots.l2])
                | succ k3 =>
                  have H := HA.out
                  clear HA
                  simp only [purflingref07_Slots.l2] at H
                  by_cases c17 : x12_3 < (l0.length : Int)
                  · rw [if_pos c17] at H
                    have c17b0 : decide (x12_3 < (l0.length : Int)) = true := decide_eq_true c17
                    clear c17
                    by_cases c18 : 0 ≤ x12_3
                    · rw [if_pos c18] at H
                      have c18b0 : decide (0 ≤ x12_3) = true := decide_eq_true c18
                      clear c18
                      have HC19 := Aside0.mk H
                      clear H
                      have p268 : 0 ≤ (x12_3 : Int) := of_decide_eq_true (by first | (with_reducible assumption) | assumption)
                      have q268 : x12_3 < (l0.length : Int) := of_decide_eq_true (by first | (with_reducible assumption) | assumption)
                      obtain ⟨ad268, e268, hx268_0, hx268_1, hx268_2, hx268_3, hx268_4⟩ := at_T40 HR0.out x12_3 p268 q268
                      cases e268
                      replace hx268_0 := (HB.out.cell (World.block_lt_of_cell? w _ hx268_0)).trans hx268_0
                      replace hx268_1 := (HB.out.cell (World.block_lt_of_cell? w _ hx268_1)).trans hx268_1
                      replace hx268_2 := (HB.out.cell (World.block_lt_of_cell? w _ hx268_2)).trans hx268_2
                      replace hx268_3 := (HB.out.cell (World.block_lt_of_cell? w _ hx268_3)).trans hx268_3
                      replace hx268_4 := (HB.out.cell (World.block_lt_of_cell? w _ hx268_4)).trans hx268_4
                      replace p268 := eq_true p268
                      replace q268 := eq_true q268
                      go_upto_region 17 with (first | ((with_reducible refine gate_dst (N := 13) rfl ?_); refine box_event ?hg (N := 13) ?hd (cs := #[.int .i64 0, .int .i64 0, .int .i64 0, .int .i64 0, .int .i64 0]) (t := 40) ?hr ?_; (case hd => rfl); (case hg => rfl); (case hr => first | (go_simp; done) | (go_simp; rfl)); intro gb269 hg w20 hbox hb; have n0_ := Aside0.mk (Kd.S_below (by (with_reducible repeat (first | apply Kd.S_alloc | apply Kd.S_drewN | apply Kd.S_drew)); exact HO_8.out) hb); have n1_ := Aside0.mk (below_step (by repeat (first | (with_reducible first | exact HB.out | apply below_alloc | apply pw_below_drewN | apply below_drew1) | exact HB.out)) hb); have n2_ := Aside0.mk (hbox); have n3_ := Aside0.mk ((by rw [hg]; exact (below_size (by repeat (first | (with_reducible first | exact HB.out | apply below_alloc | apply pw_below_drewN | apply below_drew1) | exact HB.out))) : w.heap.size ≤ gb269)); have n4_ := Aside0.mk ((by rw [hg]; exact (below_size (by repeat (first | (with_reducible first | exact HB.out | apply below_alloc | apply pw_below_drewN | apply below_drew1) | exact HB.out))) : w.heap.size ≤ gb269)); clear HO_8; clear HB; have HO_8 := n0_; have HB := n1_; have BK269 := n2_; have GW269 := n3_; have GE269 := n4_; clear n0_ n1_ n2_ n3_ n4_; clear hb hbox hg; have hcz21_0 : w20.cell? ⟨gb269, 0, none⟩ = some (.int .i64 0) := (blk_cell BK269.out 0).trans rfl; have hcz21_1 : w20.cell? ⟨gb269, 1, none⟩ = some (.int .i64 0) := (blk_cell BK269.out 1).trans rfl; have hcz21_2 : w20.cell? ⟨gb269, 2, none⟩ = some (.int .i64 0) := (blk_cell BK269.out 2).trans rfl; have hcz21_3 : w20.cell? ⟨gb269, 3, none⟩ = some (.int .i64 0) := (blk_cell BK269.out 3).trans rfl; have hcz21_4 : w20.cell? ⟨gb269, 4, none⟩ = some (.int .i64 0) := (blk_cell BK269.out 4).trans rfl; have hfz21_0 := blk_frozen BK269.out 0; have hfz21_1 := blk_frozen BK269.out 1; have hfz21_2 := blk_frozen BK269.out 2; have hfz21_3 := blk_frozen BK269.out 3; have hfz21_4 := blk_frozen BK269.out 4))
                      (try simp only [Act.put, List.setIfInBounds_toArray, List.set_cons_zero, List.set_cons_succ])
                      go_cut [110] (fun v110 wc => ∃ (kq : Nat) (x110_18 : Bool), v110 = .bool x110_18 ∧ Aside0 (purflingref07_Slots.j4 kq l0 a1 a2 x8_3 x12_3 x110_18 ((rd_T40 l0 x12_3).f0) ((rd_T40 l0 x12_3).f1) ((rd_T40 l0 x12_3).f2) ((rd_T40 l0 x12_3).f3) ((rd_T40 l0 x12_3).f4) = some (r1, r2)) ∧ Aside0 (kq ≤ k3) ∧ Aside0 (Kd.S (Kd.slice 3 (Kd.int .i64)) 23 wc w.heap.size (fun _ => True) u8 x8_3) ∧ Aside0 (wc.heap[gb269]? = some (.cells #[.int .i64 ((rd_T40 l0 x12_3).f0), .int .i64 ((rd_T40 l0 x12_3).f1), .int .i64 ((rd_T40 l0 x12_3).f2), .int .i64 ((rd_T40 l0 x12_3).f3), .int .i64 ((rd_T40 l0 x12_3).f4)] 40 (0, 0))) ∧ Aside0 (Below w.heap.size w wc))
                      case first =>
                        have H := HC19.out
                        clear HC19
                        by_cases c22 : ((rd_T40 l0 x12_3).f3) < 1
                        · rw [if_pos c22] at H
                          have c22b0 : decide (((rd_T40 l0 x12_3).f3) < 1) = true := decide_eq_true c22
                          clear c22
                          (first | rw [c22b0] | (simp only [i64_w, i32_w]; rw [c22b0]) | skip)
                          have H' := Aside0.mk H
                          clear H
                          have hcz23_0 : w20.cell? ⟨gb269, 0, none⟩ = some (.int .i64 0) := (blk_cell BK269.out 0).trans rfl
                          have hcz23_1 : w20.cell? ⟨gb269, 1, none⟩ = some (.int .i64 0) := (blk_cell BK269.out 1).trans rfl
                          have hcz23_2 : w20.cell? ⟨gb269, 2, none⟩ = some (.int .i64 0) := (blk_cell BK269.out 2).trans rfl
                          have hcz23_3 : w20.cell? ⟨gb269, 3, none⟩ = some (.int .i64 0) := (blk_cell BK269.out 3).trans rfl
                          have hcz23_4 : w20.cell? ⟨gb269, 4, none⟩ = some (.int .i64 0) := (blk_cell BK269.out 4).trans rfl
                          have hfz23_0 := blk_frozen BK269.out 0
                          have hfz23_1 := blk_frozen BK269.out 1
                          have hfz23_2 := blk_frozen BK269.out 2
                          have hfz23_3 := blk_frozen BK269.out 3
                          have hfz23_4 := blk_frozen BK269.out 4
                          go_wp2
                          go_meet
                          case rel => exact ⟨_, (true), (by first | rfl | (simp; done) | (simp [*]; done)), H', ⟨by have := HJ3.out; have := HK2.out; have := HK3.out; first | omega | exact Nat.le_refl _⟩, ⟨by (with_reducible repeat (first | apply Kd.S_alloc | apply Kd.S_drewN | apply Kd.S_drew)); exact Kd.S_mono (Kd.S_far (p := ⟨gb269, 4, none⟩) (Kd.S_far (p := ⟨gb269, 3, none⟩) (Kd.S_far (p := ⟨gb269, 2, none⟩) (Kd.S_far (p := ⟨gb269, 1, none⟩) (Kd.S_far (p := ⟨gb269, 0, none⟩) (Kd.S_types HO_8.out BK269.out (by decide)) (fun _ hk => hk.2) (.int .i64 ((rd_T40 l0 x12_3).f0))) (fun _ hk => hk.2) (.int .i64 ((rd_T40 l0 x12_3).f1))) (fun _ hk => hk.2) (.int .i64 ((rd_T40 l0 x12_3).f2))) (fun _ hk => hk.2) (.int .i64 ((rd_T40 l0 x12_3).f3))) (fun _ hk => hk.2) (.int .i64 ((rd_T40 l0 x12_3).f4))) (fun _ hk => trivial)⟩, ⟨by (with_reducible repeat (first | refine blk_drewN ?_ _ | refine blk_drew ?_ | refine blk_alloc ?_ _)); refine blk_put (cs := #[.int .i64 ((rd_T40 l0 x12_3).f0), .int .i64 ((rd_T40 l0 x12_3).f1), .int .i64 ((rd_T40 l0 x12_3).f2), .int .i64 ((rd_T40 l0 x12_3).f3), .int .i64 0]) ?_ 4 _ rfl; (with_reducible repeat (first | refine blk_drewN ?_ _ | refine blk_drew ?_ | refine blk_alloc ?_ _)); refine blk_put (cs := #[.int .i64 ((rd_T40 l0 x12_3).f0), .int .i64 ((rd_T40 l0 x12_3).f1), .int .i64 ((rd_T40 l0 x12_3).f2), .int .i64 0, .int .i64 0]) ?_ 3 _ rfl; (with_reducible repeat (first | refine blk_drewN ?_ _ | refine blk_drew ?_ | refine blk_alloc ?_ _)); refine blk_put (cs := #[.int .i64 ((rd_T40 l0 x12_3).f0), .int .i64 ((rd_T40 l0 x12_3).f1), .int .i64 0, .int .i64 0, .int .i64 0]) ?_ 2 _ rfl; (with_reducible repeat (first | refine blk_drewN ?_ _ | refine blk_drew ?_ | refine blk_alloc ?_ _)); refine blk_put (cs := #[.int .i64 ((rd_T40 l0 x12_3).f0), .int .i64 0, .int .i64 0, .int .i64 0, .int .i64 0]) ?_ 1 _ rfl; (with_reducible repeat (first | refine blk_drewN ?_ _ | refine blk_drew ?_ | refine blk_alloc ?_ _)); refine blk_put (cs := #[.int .i64 0, .int .i64 0, .int .i64 0, .int .i64 0, .int .i64 0]) ?_ 0 _ rfl; (with_reducible repeat (first | refine blk_drewN ?_ _ | refine blk_drew ?_ | refine blk_alloc ?_ _)); exact BK269.out⟩, ⟨by repeat (first | (with_reducible first | exact HB.out | apply below_alloc | apply pw_below_drewN | apply below_drew1 | refine below_set ?_ GE269.out) | exact HB.out)⟩⟩
                        · rw [if_neg c22] at H
                          have c22b0 : decide (((rd_T40 l0 x12_3).f3) < 1) = false := decide_eq_false c22
                          clear c22
                          (first | rw [c22b0] | (simp only [i64_w, i32_w]; rw [c22b0]) | skip)
                          by_cases c24 : ((rd_T40 l0 x12_3).f4) < 1
                          · rw [if_pos c24] at H
                            have c24b0 : decide (((rd_T40 l0 x12_3).f4) < 1) = true := decide_eq_true c24
                            clear c24
                            have H' := Aside0.mk H
                            clear H
                            have hcz25_0 : w20.cell? ⟨gb269, 0, none⟩ = some (.int .i64 0) := (blk_cell BK269.out 0).trans rfl
                            have hcz25_1 : w20.cell? ⟨gb269, 1, none⟩ = some (.int .i64 0) := (blk_cell BK269.out 1).trans rfl
                            have hcz25_2 : w20.cell? ⟨gb269, 2, none⟩ = some (.int .i64 0) := (blk_cell BK269.out 2).trans rfl
                            have hcz25_3 : w20.cell? ⟨gb269, 3, none⟩ = some (.int .i64 0) := (blk_cell BK269.out 3).trans rfl
                            have hcz25_4 : w20.cell? ⟨gb269, 4, none⟩ = some (.int .i64 0) := (blk_cell BK269.out 4).trans rfl
                            have hfz25_0 := blk_frozen BK269.out 0
                            have hfz25_1 := blk_frozen BK269.out 1
                            have hfz25_2 := blk_frozen BK269.out 2
                            have hfz25_3 := blk_frozen BK269.out 3
                            have hfz25_4 := blk_frozen BK269.out 4
                            go_wp2
                            go_meet
                            case rel => exact ⟨_, (true), (by first | rfl | (simp; done) | (simp [*]; done)), H', ⟨by have := HJ3.out; have := HK2.out; have := HK3.out; first | omega | exact Nat.le_refl _⟩, ⟨by (with_reducible repeat (first | apply Kd.S_alloc | apply Kd.S_drewN | apply Kd.S_drew)); exact Kd.S_mono (Kd.S_far (p := ⟨gb269, 4, none⟩) (Kd.S_far (p := ⟨gb269, 3, none⟩) (Kd.S_far (p := ⟨gb269, 2, none⟩) (Kd.S_far (p := ⟨gb269, 1, none⟩) (Kd.S_far (p := ⟨gb269, 0, none⟩) (Kd.S_types HO_8.out BK269.out (by decide)) (fun _ hk => hk.2) (.int .i64 ((rd_T40 l0 x12_3).f0))) (fun _ hk => hk.2) (.int .i64 ((rd_T40 l0 x12_3).f1))) (fun _ hk => hk.2) (.int .i64 ((rd_T40 l0 x12_3).f2))) (fun _ hk => hk.2) (.int .i64 ((rd_T40 l0 x12_3).f3))) (fun _ hk => hk.2) (.int .i64 ((rd_T40 l0 x12_3).f4))) (fun _ hk => trivial)⟩, ⟨by (with_reducible repeat (first | refine blk_drewN ?_ _ | refine blk_drew ?_ | refine blk_alloc ?_ _)); refine blk_put (cs := #[.int .i64 ((rd_T40 l0 x12_3).f0), .int .i64 ((rd_T40 l0 x12_3).f1), .int .i64 ((rd_T40 l0 x12_3).f2), .int .i64 ((rd_T40 l0 x12_3).f3), .int .i64 0]) ?_ 4 _ rfl; (with_reducible repeat (first | refine blk_drewN ?_ _ | refine blk_drew ?_ | refine blk_alloc ?_ _)); refine blk_put (cs := #[.int .i64 ((rd_T40 l0 x12_3).f0), .int .i64 ((rd_T40 l0 x12_3).f1), .int .i64 ((rd_T40 l0 x12_3).f2), .int .i64 0, .int .i64 0]) ?_ 3 _ rfl; (with_reducible repeat (first | refine blk_drewN ?_ _ | refine blk_drew ?_ | refine blk_alloc ?_ _)); refine blk_put (cs := #[.int .i64 ((rd_T40 l0 x12_3).f0), .int .i64 ((rd_T40 l0 x12_3).f1), .int .i64 0, .int .i64 0, .int .i64 0]) ?_ 2 _ rfl; (with_reducible repeat (first | refine blk_drewN ?_ _ | refine blk_drew ?_ | refine blk_alloc ?_ _)); refine blk_put (cs := #[.int .i64 ((rd_T40 l0 x12_3).f0), .int .i64 0, .int .i64 0, .int .i64 0, .int .i64 0]) ?_ 1 _ rfl; (with_reducible repeat (first | refine blk_drewN ?_ _ | refine blk_drew ?_ | refine blk_alloc ?_ _)); refine blk_put (cs := #[.int .i64 0, .int .i64 0, .int .i64 0, .int .i64 0, .int .i64 0]) ?_ 0 _ rfl; (with_reducible repeat (first | refine blk_drewN ?_ _ | refine blk_drew ?_ | refine blk_alloc ?_ _)); exact BK269.out⟩, ⟨by repeat (first | (with_reducible first | exact HB.out | apply below_alloc | apply pw_below_drewN | apply below_drew1 | refine below_set ?_ GE269.out) | exact HB.out)⟩⟩
                          · rw [if_neg c24] at H
                            have c24b0 : decide (((rd_T40 l0 x12_3).f4) < 1) = false := decide_eq_false c24
                            clear c24
                            by_cases c26 : ((rd_T40 l0 x12_3).f1) < 0
                            · rw [if_pos c26] at H
                              have c26b0 : decide (((rd_T40 l0 x12_3).f1) < 0) = true := decide_eq_true c26
                              clear c26
                              have H' := Aside0.mk H
                              clear H
                              have hcz27_0 : w20.cell? ⟨gb269, 0, none⟩ = some (.int .i64 0) := (blk_cell BK269.out 0).trans rfl
                              have hcz27_1 : w20.cell? ⟨gb269, 1, none⟩ = some (.int .i64 0) := (blk_cell BK269.out 1).trans rfl
                              have hcz27_2 : w20.cell? ⟨gb269, 2, none⟩ = some (.int .i64 0) := (blk_cell BK269.out 2).trans rfl
                              have hcz27_3 : w20.cell? ⟨gb269, 3, none⟩ = some (.int .i64 0) := (blk_cell BK269.out 3).trans rfl
                              have hcz27_4 : w20.cell? ⟨gb269, 4, none⟩ = some (.int .i64 0) := (blk_cell BK269.out 4).trans rfl
                              have hfz27_0 := blk_frozen BK269.out 0
                              have hfz27_1 := blk_frozen BK269.out 1
                              have hfz27_2 := blk_frozen BK269.out 2
                              have hfz27_3 := blk_frozen BK269.out 3
                              have hfz27_4 := blk_frozen BK269.out 4
                              go_wp2
                              go_meet
                              case rel => exact ⟨_, (true), (by first | rfl | (simp; done) | (simp [*]; done)), H', ⟨by have := HJ3.out; have := HK2.out; have := HK3.out; first | omega | exact Nat.le_refl _⟩, ⟨by (with_reducible repeat (first | apply Kd.S_alloc | apply Kd.S_drewN | apply Kd.S_drew)); exact Kd.S_mono (Kd.S_far (p := ⟨gb269, 4, none⟩) (Kd.S_far (p := ⟨gb269, 3, none⟩) (Kd.S_far (p := ⟨gb269, 2, none⟩) (Kd.S_far (p := ⟨gb269, 1, none⟩) (Kd.S_far (p := ⟨gb269, 0, none⟩) (Kd.S_types HO_8.out BK269.out (by decide)) (fun _ hk => hk.2) (.int .i64 ((rd_T40 l0 x12_3).f0))) (fun _ hk => hk.2) (.int .i64 ((rd_T40 l0 x12_3).f1))) (fun _ hk => hk.2) (.int .i64 ((rd_T40 l0 x12_3).f2))) (fun _ hk => hk.2) (.int .i64 ((rd_T40 l0 x12_3).f3))) (fun _ hk => hk.2) (.int .i64 ((rd_T40 l0 x12_3).f4))) (fun _ hk => trivial)⟩, ⟨by (with_reducible repeat (first | refine blk_drewN ?_ _ | refine blk_drew ?_ | refine blk_alloc ?_ _)); refine blk_put (cs := #[.int .i64 ((rd_T40 l0 x12_3).f0), .int .i64 ((rd_T40 l0 x12_3).f1), .int .i64 ((rd_T40 l0 x12_3).f2), .int .i64 ((rd_T40 l0 x12_3).f3), .int .i64 0]) ?_ 4 _ rfl; (with_reducible repeat (first | refine blk_drewN ?_ _ | refine blk_drew ?_ | refine blk_alloc ?_ _)); refine blk_put (cs := #[.int .i64 ((rd_T40 l0 x12_3).f0), .int .i64 ((rd_T40 l0 x12_3).f1), .int .i64 ((rd_T40 l0 x12_3).f2), .int .i64 0, .int .i64 0]) ?_ 3 _ rfl; (with_reducible repeat (first | refine blk_drewN ?_ _ | refine blk_drew ?_ | refine blk_alloc ?_ _)); refine blk_put (cs := #[.int .i64 ((rd_T40 l0 x12_3).f0), .int .i64 ((rd_T40 l0 x12_3).f1), .int .i64 0, .int .i64 0, .int .i64 0]) ?_ 2 _ rfl; (with_reducible repeat (first | refine blk_drewN ?_ _ | refine blk_drew ?_ | refine blk_alloc ?_ _)); refine blk_put (cs := #[.int .i64 ((rd_T40 l0 x12_3).f0), .int .i64 0, .int .i64 0, .int .i64 0, .int .i64 0]) ?_ 1 _ rfl; (with_reducible repeat (first | refine blk_drewN ?_ _ | refine blk_drew ?_ | refine blk_alloc ?_ _)); refine blk_put (cs := #[.int .i64 0, .int .i64 0, .int .i64 0, .int .i64 0, .int .i64 0]) ?_ 0 _ rfl; (with_reducible repeat (first | refine blk_drewN ?_ _ | refine blk_drew ?_ | refine blk_alloc ?_ _)); exact BK269.out⟩, ⟨by repeat (first | (with_reducible first | exact HB.out | apply below_alloc | apply pw_below_drewN | apply below_drew1 | refine below_set ?_ GE269.out) | exact HB.out)⟩⟩
                            · rw [if_neg c26] at H
                              have c26b0 : decide (((rd_T40 l0 x12_3).f1) < 0) = false := decide_eq_false c26
                              clear c26
                              by_cases c28 : ((rd_T40 l0 x12_3).f2) < 0
                              · rw [if_pos c28] at H
                                have c28b0 : decide (((rd_T40 l0 x12_3).f2) < 0) = true := decide_eq_true c28
                                clear c28
                                have H' := Aside0.mk H
                                clear H
                                have hcz29_0 : w20.cell? ⟨gb269, 0, none⟩ = some (.int .i64 0) := (blk_cell BK269.out 0).trans rfl
                                have hcz29_1 : w20.cell? ⟨gb269, 1, none⟩ = some (.int .i64 0) := (blk_cell BK269.out 1).trans rfl
                                have hcz29_2 : w20.cell? ⟨gb269, 2, none⟩ = some (.int .i64 0) := (blk_cell BK269.out 2).trans rfl
                                have hcz29_3 : w20.cell? ⟨gb269, 3, none⟩ = some (.int .i64 0) := (blk_cell BK269.out 3).trans rfl
                                have hcz29_4 : w20.cell? ⟨gb269, 4, none⟩ = some (.int .i64 0) := (blk_cell BK269.out 4).trans rfl
                                have hfz29_0 := blk_frozen BK269.out 0
                                have hfz29_1 := blk_frozen BK269.out 1
                                have hfz29_2 := blk_frozen BK269.out 2
                                have hfz29_3 := blk_frozen BK269.out 3
                                have hfz29_4 := blk_frozen BK269.out 4
                                go_wp2
                                go_meet
                                case rel => exact ⟨_, (true), (by first | rfl | (simp; done) | (simp [*]; done)), H', ⟨by have := HJ3.out; have := HK2.out; have := HK3.out; first | omega | exact Nat.le_refl _⟩, ⟨by (with_reducible repeat (first | apply Kd.S_alloc | apply Kd.S_drewN | apply Kd.S_drew)); exact Kd.S_mono (Kd.S_far (p := ⟨gb269, 4, none⟩) (Kd.S_far (p := ⟨gb269, 3, none⟩) (Kd.S_far (p := ⟨gb269, 2, none⟩) (Kd.S_far (p := ⟨gb269, 1, none⟩) (Kd.S_far (p := ⟨gb269, 0, none⟩) (Kd.S_types HO_8.out BK269.out (by decide)) (fun _ hk => hk.2) (.int .i64 ((rd_T40 l0 x12_3).f0))) (fun _ hk => hk.2) (.int .i64 ((rd_T40 l0 x12_3).f1))) (fun _ hk => hk.2) (.int .i64 ((rd_T40 l0 x12_3).f2))) (fun _ hk => hk.2) (.int .i64 ((rd_T40 l0 x12_3).f3))) (fun _ hk => hk.2) (.int .i64 ((rd_T40 l0 x12_3).f4))) (fun _ hk => trivial)⟩, ⟨by (with_reducible repeat (first | refine blk_drewN ?_ _ | refine blk_drew ?_ | refine blk_alloc ?_ _)); refine blk_put (cs := #[.int .i64 ((rd_T40 l0 x12_3).f0), .int .i64 ((rd_T40 l0 x12_3).f1), .int .i64 ((rd_T40 l0 x12_3).f2), .int .i64 ((rd_T40 l0 x12_3).f3), .int .i64 0]) ?_ 4 _ rfl; (with_reducible repeat (first | refine blk_drewN ?_ _ | refine blk_drew ?_ | refine blk_alloc ?_ _)); refine blk_put (cs := #[.int .i64 ((rd_T40 l0 x12_3).f0), .int .i64 ((rd_T40 l0 x12_3).f1), .int .i64 ((rd_T40 l0 x12_3).f2), .int .i64 0, .int .i64 0]) ?_ 3 _ rfl; (with_reducible repeat (first | refine blk_drewN ?_ _ | refine blk_drew ?_ | refine blk_alloc ?_ _)); refine blk_put (cs := #[.int .i64 ((rd_T40 l0 x12_3).f0), .int .i64 ((rd_T40 l0 x12_3).f1), .int .i64 0, .int .i64 0, .int .i64 0]) ?_ 2 _ rfl; (with_reducible repeat (first | refine blk_drewN ?_ _ | refine blk_drew ?_ | refine blk_alloc ?_ _)); refine blk_put (cs := #[.int .i64 ((rd_T40 l0 x12_3).f0), .int .i64 0, .int .i64 0, .int .i64 0, .int .i64 0]) ?_ 1 _ rfl; (with_reducible repeat (first | refine blk_drewN ?_ _ | refine blk_drew ?_ | refine blk_alloc ?_ _)); refine blk_put (cs := #[.int .i64 0, .int .i64 0, .int .i64 0, .int .i64 0, .int .i64 0]) ?_ 0 _ rfl; (with_reducible repeat (first | refine blk_drewN ?_ _ | refine blk_drew ?_ | refine blk_alloc ?_ _)); exact BK269.out⟩, ⟨by repeat (first | (with_reducible first | exact HB.out | apply below_alloc | apply pw_below_drewN | apply below_drew1 | refine below_set ?_ GE269.out) | exact HB.out)⟩⟩
                              · rw [if_neg c28] at H
                                have c28b0 : decide (((rd_T40 l0 x12_3).f2) < 0) = false := decide_eq_false c28
                                clear c28
                                by_cases c30 : ((rd_T40 l0 x12_3).f1) > a1
                                · rw [if_pos c30] at H
                                  have c30b0 : decide (a1 < ((rd_T40 l0 x12_3).f1)) = true := decide_eq_true c30
                                  clear c30
                                  have H' := Aside0.mk H
                                  clear H
                                  have hcz31_0 : w20.cell? ⟨gb269, 0, none⟩ = some (.int .i64 0) := (blk_cell BK269.out 0).trans rfl
                                  have hcz31_1 : w20.cell? ⟨gb269, 1, none⟩ = some (.int .i64 0) := (blk_cell BK269.out 1).trans rfl
                                  have hcz31_2 : w20.cell? ⟨gb269, 2, none⟩ = some (.int .i64 0) := (blk_cell BK269.out 2).trans rfl
                                  have hcz31_3 : w20.cell? ⟨gb269, 3, none⟩ = some (.int .i64 0) := (blk_cell BK269.out 3).trans rfl
                                  have hcz31_4 : w20.cell? ⟨gb269, 4, none⟩ = some (.int .i64 0) := (blk_cell BK269.out 4).trans rfl
                                  have hfz31_0 := blk_frozen BK269.out 0
                                  have hfz31_1 := blk_frozen BK269.out 1
                                  have hfz31_2 := blk_frozen BK269.out 2
                                  have hfz31_3 := blk_frozen BK269.out 3
                                  have hfz31_4 := blk_frozen BK269.out 4
                                  go_wp2
                                  go_meet
                                  case rel => exact ⟨_, (true), (by first | rfl | (simp; done) | (simp [*]; done)), H', ⟨by have := HJ3.out; have := HK2.out; have := HK3.out; first | omega | exact Nat.le_refl _⟩, ⟨by (with_reducible repeat (first | apply Kd.S_alloc | apply Kd.S_drewN | apply Kd.S_drew)); exact Kd.S_mono (Kd.S_far (p := ⟨gb269, 4, none⟩) (Kd.S_far (p := ⟨gb269, 3, none⟩) (Kd.S_far (p := ⟨gb269, 2, none⟩) (Kd.S_far (p := ⟨gb269, 1, none⟩) (Kd.S_far (p := ⟨gb269, 0, none⟩) (Kd.S_types HO_8.out BK269.out (by decide)) (fun _ hk => hk.2) (.int .i64 ((rd_T40 l0 x12_3).f0))) (fun _ hk => hk.2) (.int .i64 ((rd_T40 l0 x12_3).f1))) (fun _ hk => hk.2) (.int .i64 ((rd_T40 l0 x12_3).f2))) (fun _ hk => hk.2) (.int .i64 ((rd_T40 l0 x12_3).f3))) (fun _ hk => hk.2) (.int .i64 ((rd_T40 l0 x12_3).f4))) (fun _ hk => trivial)⟩, ⟨by (with_reducible repeat (first | refine blk_drewN ?_ _ | refine blk_drew ?_ | refine blk_alloc ?_ _)); refine blk_put (cs := #[.int .i64 ((rd_T40 l0 x12_3).f0), .int .i64 ((rd_T40 l0 x12_3).f1), .int .i64 ((rd_T40 l0 x12_3).f2), .int .i64 ((rd_T40 l0 x12_3).f3), .int .i64 0]) ?_ 4 _ rfl; (with_reducible repeat (first | refine blk_drewN ?_ _ | refine blk_drew ?_ | refine blk_alloc ?_ _)); refine blk_put (cs := #[.int .i64 ((rd_T40 l0 x12_3).f0), .int .i64 ((rd_T40 l0 x12_3).f1), .int .i64 ((rd_T40 l0 x12_3).f2), .int .i64 0, .int .i64 0]) ?_ 3 _ rfl; (with_reducible repeat (first | refine blk_drewN ?_ _ | refine blk_drew ?_ | refine blk_alloc ?_ _)); refine blk_put (cs := #[.int .i64 ((rd_T40 l0 x12_3).f0), .int .i64 ((rd_T40 l0 x12_3).f1), .int .i64 0, .int .i64 0, .int .i64 0]) ?_ 2 _ rfl; (with_reducible repeat (first | refine blk_drewN ?_ _ | refine blk_drew ?_ | refine blk_alloc ?_ _)); refine blk_put (cs := #[.int .i64 ((rd_T40 l0 x12_3).f0), .int .i64 0, .int .i64 0, .int .i64 0, .int .i64 0]) ?_ 1 _ rfl; (with_reducible repeat (first | refine blk_drewN ?_ _ | refine blk_drew ?_ | refine blk_alloc ?_ _)); refine blk_put (cs := #[.int .i64 0, .int .i64 0, .int .i64 0, .int .i64 0, .int .i64 0]) ?_ 0 _ rfl; (with_reducible repeat (first | refine blk_drewN ?_ _ | refine blk_drew ?_ | refine blk_alloc ?_ _)); exact BK269.out⟩, ⟨by repeat (first | (with_reducible first | exact HB.out | apply below_alloc | apply pw_below_drewN | apply below_drew1 | refine below_set ?_ GE269.out) | exact HB.out)⟩⟩
                                · rw [if_neg c30] at H
                                  have c30b0 : decide (a1 < ((rd_T40 l0 x12_3).f1)) = false := decide_eq_false c30
                                  clear c30
                                  by_cases c32 : ((rd_T40 l0 x12_3).f2) > a2
                                  · rw [if_pos c32] at H
                                    have c32b0 : decide (a2 < ((rd_T40 l0 x12_3).f2)) = true := decide_eq_true c32
                                    clear c32
                                    have H' := Aside0.mk H
                                    clear H
                                    have hcz33_0 : w20.cell? ⟨gb269, 0, none⟩ = some (.int .i64 0) := (blk_cell BK269.out 0).trans rfl
                                    have hcz33_1 : w20.cell? ⟨gb269, 1, none⟩ = some (.int .i64 0) := (blk_cell BK269.out 1).trans rfl
                                    have hcz33_2 : w20.cell? ⟨gb269, 2, none⟩ = some (.int .i64 0) := (blk_cell BK269.out 2).trans rfl
                                    have hcz33_3 : w20.cell? ⟨gb269, 3, none⟩ = some (.int .i64 0) := (blk_cell BK269.out 3).trans rfl
                                    have hcz33_4 : w20.cell? ⟨gb269, 4, none⟩ = some (.int .i64 0) := (blk_cell BK269.out 4).trans rfl
                                    have hfz33_0 := blk_frozen BK269.out 0
                                    have hfz33_1 := blk_frozen BK269.out 1
                                    have hfz33_2 := blk_frozen BK269.out 2
                                    have hfz33_3 := blk_frozen BK269.out 3
                                    have hfz33_4 := blk_frozen BK269.out 4
                                    go_wp2
                                    go_meet
                                    case rel => exact ⟨_, (true), (by first | rfl | (simp; done) | (simp [*]; done)), H', ⟨by have := HJ3.out; have := HK2.out; have := HK3.out; first | omega | exact Nat.le_refl _⟩, ⟨by (with_reducible repeat (first | apply Kd.S_alloc | apply Kd.S_drewN | apply Kd.S_drew)); exact Kd.S_mono (Kd.S_far (p := ⟨gb269, 4, none⟩) (Kd.S_far (p := ⟨gb269, 3, none⟩) (Kd.S_far (p := ⟨gb269, 2, none⟩) (Kd.S_far (p := ⟨gb269, 1, none⟩) (Kd.S_far (p := ⟨gb269, 0, none⟩) (Kd.S_types HO_8.out BK269.out (by decide)) (fun _ hk => hk.2) (.int .i64 ((rd_T40 l0 x12_3).f0))) (fun _ hk => hk.2) (.int .i64 ((rd_T40 l0 x12_3).f1))) (fun _ hk => hk.2) (.int .i64 ((rd_T40 l0 x12_3).f2))) (fun _ hk => hk.2) (.int .i64 ((rd_T40 l0 x12_3).f3))) (fun _ hk => hk.2) (.int .i64 ((rd_T40 l0 x12_3).f4))) (fun _ hk => trivial)⟩, ⟨by (with_reducible repeat (first | refine blk_drewN ?_ _ | refine blk_drew ?_ | refine blk_alloc ?_ _)); refine blk_put (cs := #[.int .i64 ((rd_T40 l0 x12_3).f0), .int .i64 ((rd_T40 l0 x12_3).f1), .int .i64 ((rd_T40 l0 x12_3).f2), .int .i64 ((rd_T40 l0 x12_3).f3), .int .i64 0]) ?_ 4 _ rfl; (with_reducible repeat (first | refine blk_drewN ?_ _ | refine blk_drew ?_ | refine blk_alloc ?_ _)); refine blk_put (cs := #[.int .i64 ((rd_T40 l0 x12_3).f0), .int .i64 ((rd_T40 l0 x12_3).f1), .int .i64 ((rd_T40 l0 x12_3).f2), .int .i64 0, .int .i64 0]) ?_ 3 _ rfl; (with_reducible repeat (first | refine blk_drewN ?_ _ | refine blk_drew ?_ | refine blk_alloc ?_ _)); refine blk_put (cs := #[.int .i64 ((rd_T40 l0 x12_3).f0), .int .i64 ((rd_T40 l0 x12_3).f1), .int .i64 0, .int .i64 0, .int .i64 0]) ?_ 2 _ rfl; (with_reducible repeat (first | refine blk_drewN ?_ _ | refine blk_drew ?_ | refine blk_alloc ?_ _)); refine blk_put (cs := #[.int .i64 ((rd_T40 l0 x12_3).f0), .int .i64 0, .int .i64 0, .int .i64 0, .int .i64 0]) ?_ 1 _ rfl; (with_reducible repeat (first | refine blk_drewN ?_ _ | refine blk_drew ?_ | refine blk_alloc ?_ _)); refine blk_put (cs := #[.int .i64 0, .int .i64 0, .int .i64 0, .int .i64 0, .int .i64 0]) ?_ 0 _ rfl; (with_reducible repeat (first | refine blk_drewN ?_ _ | refine blk_drew ?_ | refine blk_alloc ?_ _)); exact BK269.out⟩, ⟨by repeat (first | (with_reducible first | exact HB.out | apply below_alloc | apply pw_below_drewN | apply below_drew1 | refine below_set ?_ GE269.out) | exact HB.out)⟩⟩
                                  · rw [if_neg c32] at H
                                    have c32b0 : decide (a2 < ((rd_T40 l0 x12_3).f2)) = false := decide_eq_false c32
                                    clear c32
                                    by_cases c34 : ((rd_T40 l0 x12_3).f3) > (wrap64 (a1 - ((rd_T40 l0 x12_3).f1)))
                                    · rw [if_pos c34] at H
                                      have c34b0 : decide ((wrap64 (a1 - ((rd_T40 l0 x12_3).f1))) < ((rd_T40 l0 x12_3).f3)) = true := decide_eq_true c34
                                      clear c34
                                      have H' := Aside0.mk H
                                      clear H
                                      have hcz35_0 : w20.cell? ⟨gb269, 0, none⟩ = some (.int .i64 0) := (blk_cell BK269.out 0).trans rfl
                                      have hcz35_1 : w20.cell? ⟨gb269, 1, none⟩ = some (.int .i64 0) := (blk_cell BK269.out 1).trans rfl
                                      have hcz35_2 : w20.cell? ⟨gb269, 2, none⟩ = some (.int .i64 0) := (blk_cell BK269.out 2).trans rfl
                                      have hcz35_3 : w20.cell? ⟨gb269, 3, none⟩ = some (.int .i64 0) := (blk_cell BK269.out 3).trans rfl
                                      have hcz35_4 : w20.cell? ⟨gb269, 4, none⟩ = some (.int .i64 0) := (blk_cell BK269.out 4).trans rfl
                                      have hfz35_0 := blk_frozen BK269.out 0
                                      have hfz35_1 := blk_frozen BK269.out 1
                                      have hfz35_2 := blk_frozen BK269.out 2
                                      have hfz35_3 := blk_frozen BK269.out 3
                                      have hfz35_4 := blk_frozen BK269.out 4
                                      go_wp2
                                      go_meet
                                      case rel => exact ⟨_, (true), (by first | rfl | (simp; done) | (simp [*]; done)), H', ⟨by have := HJ3.out; have := HK2.out; have := HK3.out; first | omega | exact Nat.le_refl _⟩, ⟨by (with_reducible repeat (first | apply Kd.S_alloc | apply Kd.S_drewN | apply Kd.S_drew)); exact Kd.S_mono (Kd.S_far (p := ⟨gb269, 4, none⟩) (Kd.S_far (p := ⟨gb269, 3, none⟩) (Kd.S_far (p := ⟨gb269, 2, none⟩) (Kd.S_far (p := ⟨gb269, 1, none⟩) (Kd.S_far (p := ⟨gb269, 0, none⟩) (Kd.S_types HO_8.out BK269.out (by decide)) (fun _ hk => hk.2) (.int .i64 ((rd_T40 l0 x12_3).f0))) (fun _ hk => hk.2) (.int .i64 ((rd_T40 l0 x12_3).f1))) (fun _ hk => hk.2) (.int .i64 ((rd_T40 l0 x12_3).f2))) (fun _ hk => hk.2) (.int .i64 ((rd_T40 l0 x12_3).f3))) (fun _ hk => hk.2) (.int .i64 ((rd_T40 l0 x12_3).f4))) (fun _ hk => trivial)⟩, ⟨by (with_reducible repeat (first | refine blk_drewN ?_ _ | refine blk_drew ?_ | refine blk_alloc ?_ _)); refine blk_put (cs := #[.int .i64 ((rd_T40 l0 x12_3).f0), .int .i64 ((rd_T40 l0 x12_3).f1), .int .i64 ((rd_T40 l0 x12_3).f2), .int .i64 ((rd_T40 l0 x12_3).f3), .int .i64 0]) ?_ 4 _ rfl; (with_reducible repeat (first | refine blk_drewN ?_ _ | refine blk_drew ?_ | refine blk_alloc ?_ _)); refine blk_put (cs := #[.int .i64 ((rd_T40 l0 x12_3).f0), .int .i64 ((rd_T40 l0 x12_3).f1), .int .i64 ((rd_T40 l0 x12_3).f2), .int .i64 0, .int .i64 0]) ?_ 3 _ rfl; (with_reducible repeat (first | refine blk_drewN ?_ _ | refine blk_drew ?_ | refine blk_alloc ?_ _)); refine blk_put (cs := #[.int .i64 ((rd_T40 l0 x12_3).f0), .int .i64 ((rd_T40 l0 x12_3).f1), .int .i64 0, .int .i64 0, .int .i64 0]) ?_ 2 _ rfl; (with_reducible repeat (first | refine blk_drewN ?_ _ | refine blk_drew ?_ | refine blk_alloc ?_ _)); refine blk_put (cs := #[.int .i64 ((rd_T40 l0 x12_3).f0), .int .i64 0, .int .i64 0, .int .i64 0, .int .i64 0]) ?_ 1 _ rfl; (with_reducible repeat (first | refine blk_drewN ?_ _ | refine blk_drew ?_ | refine blk_alloc ?_ _)); refine blk_put (cs := #[.int .i64 0, .int .i64 0, .int .i64 0, .int .i64 0, .int .i64 0]) ?_ 0 _ rfl; (with_reducible repeat (first | refine blk_drewN ?_ _ | refine blk_drew ?_ | refine blk_alloc ?_ _)); exact BK269.out⟩, ⟨by repeat (first | (with_reducible first | exact HB.out | apply below_alloc | apply pw_below_drewN | apply below_drew1 | refine below_set ?_ GE269.out) | exact HB.out)⟩⟩
                                    · rw [if_neg c34] at H
                                      have c34b0 : decide ((wrap64 (a1 - ((rd_T40 l0 x12_3).f1))) < ((rd_T40 l0 x12_3).f3)) = false := decide_eq_false c34
                                      clear c34
                                      have H' := Aside0.mk H
                                      clear H
                                      have hcz36_0 : w20.cell? ⟨gb269, 0, none⟩ = some (.int .i64 0) := (blk_cell BK269.out 0).trans rfl
                                      have hcz36_1 : w20.cell? ⟨gb269, 1, none⟩ = some (.int .i64 0) := (blk_cell BK269.out 1).trans rfl
                                      have hcz36_2 : w20.cell? ⟨gb269, 2, none⟩ = some (.int .i64 0) := (blk_cell BK269.out 2).trans rfl
                                      have hcz36_3 : w20.cell? ⟨gb269, 3, none⟩ = some (.int .i64 0) := (blk_cell BK269.out 3).trans rfl
                                      have hcz36_4 : w20.cell? ⟨gb269, 4, none⟩ = some (.int .i64 0) := (blk_cell BK269.out 4).trans rfl
                                      have hfz36_0 := blk_frozen BK269.out 0
                                      have hfz36_1 := blk_frozen BK269.out 1
                                      have hfz36_2 := blk_frozen BK269.out 2
                                      have hfz36_3 := blk_frozen BK269.out 3
                                      have hfz36_4 := blk_frozen BK269.out 4
                                      go_wp2
                                      go_meet
                                      case rel => exact ⟨_, (decide (((rd_T40 l0 x12_3).f4) > (wrap64 (a2 - ((rd_T40 l0 x12_3).f2))))), (by first | rfl | (simp; done) | (simp [*]; done)), H', ⟨by have := HJ3.out; have := HK2.out; have := HK3.out; first | omega | exact Nat.le_refl _⟩, ⟨by (with_reducible repeat (first | apply Kd.S_alloc | apply Kd.S_drewN | apply Kd.S_drew)); exact Kd.S_mono (Kd.S_far (p := ⟨gb269, 4, none⟩) (Kd.S_far (p := ⟨gb269, 3, none⟩) (Kd.S_far (p := ⟨gb269, 2, none⟩) (Kd.S_far (p := ⟨gb269, 1, none⟩) (Kd.S_far (p := ⟨gb269, 0, none⟩) (Kd.S_types HO_8.out BK269.out (by decide)) (fun _ hk => hk.2) (.int .i64 ((rd_T40 l0 x12_3).f0))) (fun _ hk => hk.2) (.int .i64 ((rd_T40 l0 x12_3).f1))) (fun _ hk => hk.2) (.int .i64 ((rd_T40 l0 x12_3).f2))) (fun _ hk => hk.2) (.int .i64 ((rd_T40 l0 x12_3).f3))) (fun _ hk => hk.2) (.int .i64 ((rd_T40 l0 x12_3).f4))) (fun _ hk => trivial)⟩, ⟨by (with_reducible repeat (first | refine blk_drewN ?_ _ | refine blk_drew ?_ | refine blk_alloc ?_ _)); refine blk_put (cs := #[.int .i64 ((rd_T40 l0 x12_3).f0), .int .i64 ((rd_T40 l0 x12_3).f1), .int .i64 ((rd_T40 l0 x12_3).f2), .int .i64 ((rd_T40 l0 x12_3).f3), .int .i64 0]) ?_ 4 _ rfl; (with_reducible repeat (first | refine blk_drewN ?_ _ | refine blk_drew ?_ | refine blk_alloc ?_ _)); refine blk_put (cs := #[.int .i64 ((rd_T40 l0 x12_3).f0), .int .i64 ((rd_T40 l0 x12_3).f1), .int .i64 ((rd_T40 l0 x12_3).f2), .int .i64 0, .int .i64 0]) ?_ 3 _ rfl; (with_reducible repeat (first | refine blk_drewN ?_ _ | refine blk_drew ?_ | refine blk_alloc ?_ _)); refine blk_put (cs := #[.int .i64 ((rd_T40 l0 x12_3).f0), .int .i64 ((rd_T40 l0 x12_3).f1), .int .i64 0, .int .i64 0, .int .i64 0]) ?_ 2 _ rfl; (with_reducible repeat (first | refine blk_drewN ?_ _ | refine blk_drew ?_ | refine blk_alloc ?_ _)); refine blk_put (cs := #[.int .i64 ((rd_T40 l0 x12_3).f0), .int .i64 0, .int .i64 0, .int .i64 0, .int .i64 0]) ?_ 1 _ rfl; (with_reducible repeat (first | refine blk_drewN ?_ _ | refine blk_drew ?_ | refine blk_alloc ?_ _)); refine blk_put (cs := #[.int .i64 0, .int .i64 0, .int .i64 0, .int .i64 0, .int .i64 0]) ?_ 0 _ rfl; (with_reducible repeat (first | refine blk_drewN ?_ _ | refine blk_drew ?_ | refine blk_alloc ?_ _)); exact BK269.out⟩, ⟨by repeat (first | (with_reducible first | exact HB.out | apply below_alloc | apply pw_below_drewN | apply below_drew1 | refine below_set ?_ GE269.out) | exact HB.out)⟩⟩
                      case rest =>
                        clear HC19
                        try clear c1
                        try clear c2
                        try clear p2
                        try clear q2
                        try clear hx2
                        try clear c3
                        try clear c5
                        try clear c5b0
                        try clear c6
                        try clear c6b0
                        try clear p6
                        try clear c7
                        try clear c7b0
                        try clear c8
                        try clear c8b0
                        try clear c9
                        try clear c10
                        try clear c10b0
                        try clear c11
                        try clear c11b0
                        try clear c12
                        try clear c14
                        try clear c17
                        try clear c17b0
                        try clear c18
                        try clear c18b0
                        try clear c22
                        try clear c22b0
                        try clear c23
                        try clear c24
                        try clear c24b0
                        try clear c26
                        try clear c26b0
                        try clear p26
                        try clear q26
                        try clear hx26
                        try clear c28
                        try clear c28b0
                        try clear c30
                        try clear c30b0
                        try clear c32
                        try clear c32b0
                        try clear c34
                        try clear c34b0
                        try clear hcz21_0
                        try clear hcz21_1
                        try clear hcz21_2
                        try clear hcz21_3
                        try clear hcz21_4
                        try clear hcz23_0
                        try clear hcz23_1
                        try clear hcz23_2
                        try clear hcz23_3
                        try clear hcz23_4
                        try clear hcz25_0
                        try clear hcz25_1
                        try clear hcz25_2
                        try clear hcz25_3
                        try clear hcz25_4
                        try clear hcz27_0
                        try clear hcz27_1
                        try clear hcz27_2
                        try clear hcz27_3
                        try clear hcz27_4
                        try clear hcz29_0
                        try clear hcz29_1
                        try clear hcz29_2
                        try clear hcz29_3
                        try clear hcz29_4
                        try clear hcz31_0
                        try clear hcz31_1
                        try clear hcz31_2
                        try clear hcz31_3
                        try clear hcz31_4
                        try clear hcz33_0
                        try clear hcz33_1
                        try clear hcz33_2
                        try clear hcz33_3
                        try clear hcz33_4
                        try clear hcz35_0
                        try clear hcz35_1
                        try clear hcz35_2
                        try clear hcz35_3
                        try clear hcz35_4
                        try clear hcz36_0
                        try clear hcz36_1
                        try clear hcz36_2
                        try clear hcz36_3
                        try clear hcz36_4
                        try clear hfz21_0
                        try clear hfz21_1
                        try clear hfz21_2
                        try clear hfz21_3
                        try clear hfz21_4
                        try clear hfz23_0
                        try clear hfz23_1
                        try clear hfz23_2
                        try clear hfz23_3
                        try clear hfz23_4
                        try clear hfz25_0
                        try clear hfz25_1
                        try clear hfz25_2
                        try clear hfz25_3
                        try clear hfz25_4
                        try clear hfz27_0
                        try clear hfz27_1
                        try clear hfz27_2
                        try clear hfz27_3
                        try clear hfz27_4
                        try clear hfz29_0
                        try clear hfz29_1
                        try clear hfz29_2
                        try clear hfz29_3
                        try clear hfz29_4
                        try clear hfz31_0
                        try clear hfz31_1
                        try clear hfz31_2
                        try clear hfz31_3
                        try clear hfz31_4
                        try clear hfz33_0
                        try clear hfz33_1
                        try clear hfz33_2
                        try clear hfz33_3
                        try clear hfz33_4
                        try clear hfz35_0
                        try clear hfz35_1
                        try clear hfz35_2
                        try clear hfz35_3
                        try clear hfz35_4
                        try clear hfz36_0
                        try clear hfz36_1
                        try clear hfz36_2
                        try clear hfz36_3
                        try clear hfz36_4
                        try clear hx268_0
                        try clear hx268_1
                        try clear hx268_2
                        try clear hx268_3
                        try clear hx268_4
                        try clear p2
                        try clear p268
                        try clear p6
                        try clear q268
                        obtain ⟨kq, x110_18, rfl, HA, HJ18, HO_8, BK269, HB⟩ := hcut
                        cases kq with
                        | zero => exact absurd HA.out (by simp [purflingref07_Slots.j4])
                        | succ kj18 =>
                          have H := HA.out
                          clear HA
                          simp only [purflingref07_Slots.j4] at H
                          by_cases c37 : x110_18 = true
                          · subst c37
                            have H1 : (some (([] : List (List Int)), 70)) = some (r1, r2) := by rw [if_pos rfl] at H; exact H
                            clear H
                            have H := H1
                            clear H1
                            simp only [Option.some.injEq, Prod.mk.injEq] at H
                            obtain ⟨rfl, rfl⟩ := H
                            go_wp2
                            go_ret2
                            exact ⟨_, by first | rfl | (simp [errW_none, errW_some] <;> rfl) | (simp [*, errW_none, errW_some] <;> rfl), by first | exact Kd.S_nil _ _ _ _ _ | exact Kd.N_nil _ _ _ _ _ | exact Kd.V_nil _ _ _ _ _ | exact Kd.Q_nil _ _ _ _ _ | exact Kd.R_nil _ _ _ _ _, by repeat (first | (with_reducible first | exact HB.out | apply below_alloc | apply pw_below_drewN | apply below_drew1 | refine below_set ?_ GE269.out) | exact HB.out)⟩
                          · replace c37 := Bool.eq_false_iff.mpr c37
                            subst c37
                            have H1 : (purflingref07_Slots.l3 kj18 l0 a1 a2 x8_3 x12_3 ((rd_T40 l0 x12_3).f1) ((rd_T40 l0 x12_3).f0) ((rd_T40 l0 x12_3).f1) ((rd_T40 l0 x12_3).f2) ((rd_T40 l0 x12_3).f3) ((rd_T40 l0 x12_3).f4)) = some (r1, r2) := by rw [if_neg (show ¬ (false = true) by decide)] at H; exact H
                            clear H
                            have H := H1
                            clear H1
                            have H' := Aside0.mk H
                            clear H
                            have hcz38_0 : wc.cell? ⟨gb269, 0, none⟩ = some (.int .i64 ((rd_T40 l0 x12_3).f0)) := (blk_cell BK269.out 0).trans rfl
                            have hcz38_1 : wc.cell? ⟨gb269, 1, none⟩ = some (.int .i64 ((rd_T40 l0 x12_3).f1)) := (blk_cell BK269.out 1).trans rfl
                            have hcz38_2 : wc.cell? ⟨gb269, 2, none⟩ = some (.int .i64 ((rd_T40 l0 x12_3).f2)) := (blk_cell BK269.out 2).trans rfl
                            have hcz38_3 : wc.cell? ⟨gb269, 3, none⟩ = some (.int .i64 ((rd_T40 l0 x12_3).f3)) := (blk_cell BK269.out 3).trans rfl
                            have hcz38_4 : wc.cell? ⟨gb269, 4, none⟩ = some (.int .i64 ((rd_T40 l0 x12_3).f4)) := (blk_cell BK269.out 4).trans rfl
                            have hfz38_0 := blk_frozen BK269.out 0
                            have hfz38_1 := blk_frozen BK269.out 1
                            have hfz38_2 := blk_frozen BK269.out 2
                            have hfz38_3 := blk_frozen BK269.out 3
                            have hfz38_4 := blk_frozen BK269.out 4
                            go_wp2
                            go_loopg [14] kj18 (fun kq v14 w' => ∃ (x8_5 : List (List Int)) (x14_5 : Int), v14 = .int .i64 x14_5 ∧ Aside0 (purflingref07_Slots.l3 kq l0 a1 a2 x8_5 x12_3 x14_5 ((rd_T40 l0 x12_3).f0) ((rd_T40 l0 x12_3).f1) ((rd_T40 l0 x12_3).f2) ((rd_T40 l0 x12_3).f3) ((rd_T40 l0 x12_3).f4) = some (r1, r2)) ∧ Aside0 (kq ≤ kj18) ∧ Aside0 (Kd.S (Kd.slice 3 (Kd.int .i64)) 23 w' w.heap.size (fun _ => True) u8 x8_5) ∧ Aside0 (w'.heap[gb269]? = some (.cells #[.int .i64 ((rd_T40 l0 x12_3).f0), .int .i64 ((rd_T40 l0 x12_3).f1), .int .i64 ((rd_T40 l0 x12_3).f2), .int .i64 ((rd_T40 l0 x12_3).f3), .int .i64 ((rd_T40 l0 x12_3).f4)] 40 (0, 0))) ∧ Aside0 (Below w.heap.size w w'))
                            case atStart => exact ⟨(x8_3), (((rd_T40 l0 x12_3).f1)), (by first | rfl | (simp; done) | (simp [*]; done)), H', ⟨Nat.le_refl _⟩, ⟨by (with_reducible repeat (first | apply Kd.S_alloc | apply Kd.S_drewN | apply Kd.S_drew)); exact HO_8.out⟩, ⟨by (with_reducible repeat (first | refine blk_drewN ?_ _ | refine blk_drew ?_ | refine blk_alloc ?_ _)); exact BK269.out⟩, ⟨by repeat (first | (with_reducible first | exact HB.out | apply below_alloc | apply pw_below_drewN | apply below_drew1 | refine below_set ?_ GE269.out) | exact HB.out)⟩⟩
                            case round =>
                              clear H'
                              try clear c1
                              try clear c2
                              try clear p2
                              try clear q2
                              try clear hx2
                              try clear c3
                              try clear c5
                              try clear c5b0
                              try clear c6
                              try clear c6b0
                              try clear p6
                              try clear c7
                              try clear c7b0
                              try clear c8
                              try clear c8b0
                              try clear c9
                              try clear c10
                              try clear c10b0
                              try clear c11
                              try clear c11b0
                              try clear c12
                              try clear c14
                              try clear c17
                              try clear c17b0
                              try clear c18
                              try clear c18b0
                              try clear c22
                              try clear c22b0
                              try clear c23
                              try clear c24
                              try clear c24b0
                              try clear c26
                              try clear c26b0
                              try clear p26
                              try clear q26
                              try clear hx26
                              try clear c28
                              try clear c28b0
                              try clear c30
                              try clear c30b0
                              try clear c32
                              try clear c32b0
                              try clear c34
                              try clear c34b0
                              try clear c37
                              try clear hcz21_0
                              try clear hcz21_1
                              try clear hcz21_2
                              try clear hcz21_3
                              try clear hcz21_4
                              try clear hcz23_0
                              try clear hcz23_1
                              try clear hcz23_2
                              try clear hcz23_3
                              try clear hcz23_4
                              try clear hcz25_0
                              try clear hcz25_1
                              try clear hcz25_2
                              try clear hcz25_3
                              try clear hcz25_4
                              try clear hcz27_0
                              try clear hcz27_1
                              try clear hcz27_2
                              try clear hcz27_3
                              try clear hcz27_4
                              try clear hcz29_0
                              try clear hcz29_1
                              try clear hcz29_2
                              try clear hcz29_3
                              try clear hcz29_4
                              try clear hcz31_0
                              try clear hcz31_1
                              try clear hcz31_2
                              try clear hcz31_3
                              try clear hcz31_4
                              try clear hcz33_0
                              try clear hcz33_1
                              try clear hcz33_2
                              try clear hcz33_3
                              try clear hcz33_4
                              try clear hcz35_0
                              try clear hcz35_1
                              try clear hcz35_2
                              try clear hcz35_3
                              try clear hcz35_4
                              try clear hcz36_0
                              try clear hcz36_1
                              try clear hcz36_2
                              try clear hcz36_3
                              try clear hcz36_4
                              try clear hcz38_0
                              try clear hcz38_1
                              try clear hcz38_2
                              try clear hcz38_3
                              try clear hcz38_4
                              try clear hfz21_0
                              try clear hfz21_1
                              try clear hfz21_2
                              try clear hfz21_3
                              try clear hfz21_4
                              try clear hfz23_0
                              try clear hfz23_1
                              try clear hfz23_2
                              try clear hfz23_3
                              try clear hfz23_4
                              try clear hfz25_0
                              try clear hfz25_1
                              try clear hfz25_2
                              try clear hfz25_3
                              try clear hfz25_4
                              try clear hfz27_0
                              try clear hfz27_1
                              try clear hfz27_2
                              try clear hfz27_3
                              try clear hfz27_4
                              try clear hfz29_0
                              try clear hfz29_1
                              try clear hfz29_2
                              try clear hfz29_3
                              try clear hfz29_4
                              try clear hfz31_0
                              try clear hfz31_1
                              try clear hfz31_2
                              try clear hfz31_3
                              try clear hfz31_4
                              try clear hfz33_0
                              try clear hfz33_1
                              try clear hfz33_2
                              try clear hfz33_3
                              try clear hfz33_4
                              try clear hfz35_0
                              try clear hfz35_1
                              try clear hfz35_2
                              try clear hfz35_3
                              try clear hfz35_4
                              try clear hfz36_0
                              try clear hfz36_1
                              try clear hfz36_2
                              try clear hfz36_3
                              try clear hfz36_4
                              try clear hfz38_0
                              try clear hfz38_1
                              try clear hfz38_2
                              try clear hfz38_3
                              try clear hfz38_4
                              try clear hx268_0
                              try clear hx268_1
                              try clear hx268_2
                              try clear hx268_3
                              try clear hx268_4
                              try clear p2
                              try clear p26
                              try clear p268
                              try clear p6
                              try clear q2
                              try clear q26
                              try clear q268
                              obtain ⟨x8_5, x14_5, rfl, HA, HK5, HO_8, BK269, HB⟩ := hrel
                              cases gk with
                              | zero => exact absurd HA.out (by simp [purflingref07_Slots.l3])
                              | succ k5 =>
                                have H := HA.out
                                clear HA
                                simp only [purflingref07_Slots.l3] at H
                                by_cases c39 : x14_5 < (wrap64 (((rd_T40 l0 x12_3).f1) + ((rd_T40 l0 x12_3).f3)))
                                · rw [if_pos c39] at H
                                  have c39b0 : decide (x14_5 < (wrap64 (((rd_T40 l0 x12_3).f1) + ((rd_T40 l0 x12_3).f3)))) = true := decide_eq_true c39
                                  clear c39
                                  have H' := Aside0.mk H
                                  clear H
                                  have hcz40_0 : wr.cell? ⟨gb269, 0, none⟩ = some (.int .i64 ((rd_T40 l0 x12_3).f0)) := (blk_cell BK269.out 0).trans rfl
                                  have hcz40_1 : wr.cell? ⟨gb269, 1, none⟩ = some (.int .i64 ((rd_T40 l0 x12_3).f1)) := (blk_cell BK269.out 1).trans rfl
                                  have hcz40_2 : wr.cell? ⟨gb269, 2, none⟩ = some (.int .i64 ((rd_T40 l0 x12_3).f2)) := (blk_cell BK269.out 2).trans rfl
                                  have hcz40_3 : wr.cell? ⟨gb269, 3, none⟩ = some (.int .i64 ((rd_T40 l0 x12_3).f3)) := (blk_cell BK269.out 3).trans rfl
                                  have hcz40_4 : wr.cell? ⟨gb269, 4, none⟩ = some (.int .i64 ((rd_T40 l0 x12_3).f4)) := (blk_cell BK269.out 4).trans rfl
                                  have hfz40_0 := blk_frozen BK269.out 0
                                  have hfz40_1 := blk_frozen BK269.out 1
                                  have hfz40_2 := blk_frozen BK269.out 2
                                  have hfz40_3 := blk_frozen BK269.out 3
                                  have hfz40_4 := blk_frozen BK269.out 4
                                  go_wp2
                                  go_loopg [15] k5 (fun kq v15 w' => ∃ (x8_6 : List (List Int)) (x15_6 : Int), v15 = .int .i64 x15_6 ∧ Aside0 (purflingref07_Slots.l4 kq l0 a1 a2 x8_6 x12_3 x14_5 x15_6 ((rd_T40 l0 x12_3).f0) ((rd_T40 l0 x12_3).f1) ((rd_T40 l0 x12_3).f2) ((rd_T40 l0 x12_3).f3) ((rd_T40 l0 x12_3).f4) = some (r1, r2)) ∧ Aside0 (kq ≤ k5) ∧ Aside0 (Kd.S (Kd.slice 3 (Kd.int .i64)) 23 w' w.heap.size (fun _ => True) u8 x8_6) ∧ Aside0 (w'.heap[gb269]? = some (.cells #[.int .i64 ((rd_T40 l0 x12_3).f0), .int .i64 ((rd_T40 l0 x12_3).f1), .int .i64 ((rd_T40 l0 x12_3).f2), .int .i64 ((rd_T40 l0 x12_3).f3), .int .i64 ((rd_T40 l0 x12_3).f4)] 40 (0, 0))) ∧ Aside0 (Below w.heap.size w w'))
                                  case atStart => exact ⟨(x8_5), (((rd_T40 l0 x12_3).f2)), (by first | rfl | (simp; done) | (simp [*]; done)), H', ⟨Nat.le_refl _⟩, ⟨by (with_reducible repeat (first | apply Kd.S_alloc | apply Kd.S_drewN | apply Kd.S_drew)); exact HO_8.out⟩, ⟨by (with_reducible repeat (first | refine blk_drewN ?_ _ | refine blk_drew ?_ | refine blk_alloc ?_ _)); exact BK269.out⟩, ⟨by repeat (first | (with_reducible first | exact HB.out | apply below_alloc | apply pw_below_drewN | apply below_drew1 | refine below_set ?_ GE269.out) | exact HB.out)⟩⟩
                                  case round =>
                                    clear H'
                                    try clear c1
                                    try clear c2
                                    try clear p2
                                    try clear q2
                                    try clear hx2
                                    try clear c3
                                    try clear c5
                                    try clear c5b0
                                    try clear c6
                                    try clear c6b0
                                    try clear p6
                                    try clear c7
                                    try clear c7b0
                                    try clear c8
                                    try clear c8b0
                                    try clear c9
                                    try clear c10
                                    try clear c10b0
                                    try clear c11
                                    try clear c11b0
                                    try clear c12
                                    try clear c14
                                    try clear c17
                                    try clear c17b0
                                    try clear c18
                                    try clear c18b0
                                    try clear c22
                                    try clear c22b0
                                    try clear c23
                                    try clear c24
                                    try clear c24b0
                                    try clear c26
                                    try clear c26b0
                                    try clear p26
                                    try clear q26
                                    try clear hx26
                                    try clear c28
                                    try clear c28b0
                                    try clear c30
                                    try clear c30b0
                                    try clear c32
                                    try clear c32b0
                                    try clear c34
                                    try clear c34b0
                                    try clear c37
                                    try clear c39
                                    try clear c39b0
                                    try clear hcz21_0
                                    try clear hcz21_1
                                    try clear hcz21_2
                                    try clear hcz21_3
                                    try clear hcz21_4
                                    try clear hcz23_0
                                    try clear hcz23_1
                                    try clear hcz23_2
                                    try clear hcz23_3
                                    try clear hcz23_4
                                    try clear hcz25_0
                                    try clear hcz25_1
                                    try clear hcz25_2
                                    try clear hcz25_3
                                    try clear hcz25_4
                                    try clear hcz27_0
                                    try clear hcz27_1
                                    try clear hcz27_2
                                    try clear hcz27_3
                                    try clear hcz27_4
                                    try clear hcz29_0
                                    try clear hcz29_1
                                    try clear hcz29_2
                                    try clear hcz29_3
                                    try clear hcz29_4
                                    try clear hcz31_0
                                    try clear hcz31_1
                                    try clear hcz31_2
                                    try clear hcz31_3
                                    try clear hcz31_4
                                    try clear hcz33_0
                                    try clear hcz33_1
                                    try clear hcz33_2
                                    try clear hcz33_3
                                    try clear hcz33_4
                                    try clear hcz35_0
                                    try clear hcz35_1
                                    try clear hcz35_2
                                    try clear hcz35_3
                                    try clear hcz35_4
                                    try clear hcz36_0
                                    try clear hcz36_1
                                    try clear hcz36_2
                                    try clear hcz36_3
                                    try clear hcz36_4
                                    try clear hcz38_0
                                    try clear hcz38_1
                                    try clear hcz38_2
                                    try clear hcz38_3
                                    try clear hcz38_4
                                    try clear hcz40_0
                                    try clear hcz40_1
                                    try clear hcz40_2
                                    try clear hcz40_3
                                    try clear hcz40_4
                                    try clear hfz21_0
                                    try clear hfz21_1
                                    try clear hfz21_2
                                    try clear hfz21_3
                                    try clear hfz21_4
                                    try clear hfz23_0
                                    try clear hfz23_1
                                    try clear hfz23_2
                                    try clear hfz23_3
                                    try clear hfz23_4
                                    try clear hfz25_0
                                    try clear hfz25_1
                                    try clear hfz25_2
                                    try clear hfz25_3
                                    try clear hfz25_4
                                    try clear hfz27_0
                                    try clear hfz27_1
                                    try clear hfz27_2
                                    try clear hfz27_3
                                    try clear hfz27_4
                                    try clear hfz29_0
                                    try clear hfz29_1
                                    try clear hfz29_2
                                    try clear hfz29_3
                                    try clear hfz29_4
                                    try clear hfz31_0
                                    try clear hfz31_1
                                    try clear hfz31_2
                                    try clear hfz31_3
                                    try clear hfz31_4
                                    try clear hfz33_0
                                    try clear hfz33_1
                                    try clear hfz33_2
                                    try clear hfz33_3
                                    try clear hfz33_4
                                    try clear hfz35_0
                                    try clear hfz35_1
                                    try clear hfz35_2
                                    try clear hfz35_3
                                    try clear hfz35_4
                                    try clear hfz36_0
                                    try clear hfz36_1
                                    try clear hfz36_2
                                    try clear hfz36_3
                                    try clear hfz36_4
                                    try clear hfz38_0
                                    try clear hfz38_1
                                    try clear hfz38_2
                                    try clear hfz38_3
                                    try clear hfz38_4
                                    try clear hfz40_0
                                    try clear hfz40_1
                                    try clear hfz40_2
                                    try clear hfz40_3
                                    try clear hfz40_4
                                    try clear hx268_0
                                    try clear hx268_1
                                    try clear hx268_2
                                    try clear hx268_3
                                    try clear hx268_4
                                    try clear p2
                                    try clear p26
                                    try clear p268
                                    try clear p6
                                    try clear q2
                                    try clear q26
                                    try clear q268
                                    obtain ⟨x8_6, x15_6, rfl, HA, HK6, HO_8, BK269, HB⟩ := hrel
                                    cases gk with
                                    | zero => exact absurd HA.out (by simp [purflingref07_Slots.l4])
                                    | succ k6 =>
                                      have H := HA.out
                                      clear HA
                                      simp only [purflingref07_Slots.l4] at H
                                      by_cases c41 : x15_6 < (wrap64 (((rd_T40 l0 x12_3).f2) + ((rd_T40 l0 x12_3).f4)))
                                      · rw [if_pos c41] at H
                                        have c41b0 : decide (x15_6 < (wrap64 (((rd_T40 l0 x12_3).f2) + ((rd_T40 l0 x12_3).f4)))) = true := decide_eq_true c41
                                        clear c41
                                        by_cases c42 : 0 ≤ x14_5
                                        · rw [if_pos c42] at H
                                          have c42b0 : decide (0 ≤ x14_5) = true := decide_eq_true c42
                                          clear c42
                                          by_cases c43 : x14_5 < (x8_6.length : Int)
                                          · rw [if_pos c43] at H
                                            have c43b0 : decide (x14_5 < (x8_6.length : Int)) = true := decide_eq_true c43
                                            clear c43
                                            by_cases c44 : 0 ≤ x15_6
                                            · rw [if_pos c44] at H
                                              have c44b0 : decide (0 ≤ x15_6) = true := decide_eq_true c44
                                              clear c44
                                              by_cases c45 : x15_6 < ((rd_L4 x8_6 x14_5).length : Int)
                                              · rw [if_pos c45] at H
                                                have c45b0 : decide (x15_6 < ((rd_L4 x8_6 x14_5).length : Int)) = true := decide_eq_true c45
                                                clear c45
                                                by_cases c46 : (rd (rd_L4 x8_6 x14_5) x15_6) ≥ 0
                                                · rw [if_pos c46] at H
                                                  have c46b0 : decide (0 ≤ (rd (rd_L4 x8_6 x14_5) x15_6)) = true := decide_eq_true c46
                                                  clear c46
                                                  simp only [Option.some.injEq, Prod.mk.injEq] at H
                                                  obtain ⟨rfl, rfl⟩ := H
                                                  have hcz47_0 : wr.cell? ⟨gb269, 0, none⟩ = some (.int .i64 ((rd_T40 l0 x12_3).f0)) := (blk_cell BK269.out 0).trans rfl
                                                  have hcz47_1 : wr.cell? ⟨gb269, 1, none⟩ = some (.int .i64 ((rd_T40 l0 x12_3).f1)) := (blk_cell BK269.out 1).trans rfl
                                                  have hcz47_2 : wr.cell? ⟨gb269, 2, none⟩ = some (.int .i64 ((rd_T40 l0 x12_3).f2)) := (blk_cell BK269.out 2).trans rfl
                                                  have hcz47_3 : wr.cell? ⟨gb269, 3, none⟩ = some (.int .i64 ((rd_T40 l0 x12_3).f3)) := (blk_cell BK269.out 3).trans rfl
                                                  have hcz47_4 : wr.cell? ⟨gb269, 4, none⟩ = some (.int .i64 ((rd_T40 l0 x12_3).f4)) := (blk_cell BK269.out 4).trans rfl
                                                  have hfz47_0 := blk_frozen BK269.out 0
                                                  have hfz47_1 := blk_frozen BK269.out 1
                                                  have hfz47_2 := blk_frozen BK269.out 2
                                                  have hfz47_3 := blk_frozen BK269.out 3
                                                  have hfz47_4 := blk_frozen BK269.out 4
                                                  obtain ⟨Ao48, co48, eo48⟩ := Kd.S_slice HO_8.out
                                                  subst eo48
                                                  have p270 : 0 ≤ (x14_5 : Int) := of_decide_eq_true (by first | (with_reducible assumption) | assumption)
                                                  have q270 : x14_5 < (x8_6.length : Int) := of_decide_eq_true (by first | (with_reducible assumption) | assumption)
                                                  obtain ⟨ad270, A270_0, c270_0, e270, hx270_0, hl270_0, hi270_0⟩ := at_L4 (Kd.S_reads' HO_8.out).2.2 x14_5 p270 q270
                                                  cases e270
                                                  obtain ⟨ce270, hce270, hMe270, hcc270⟩ := Kd.S_get HO_8.out [] x14_5 p270 (by first | exact q270 | exact of_decide_eq_true (by first | (with_reducible assumption) | assumption) | (have e_ := (Kd.S_reads' HO_8.out).1; omega))
                                                  obtain ⟨ve270_0, rfl, ge270_0⟩ := hMe270
                                                  have hv270_0 := hcc270 0 _ rfl
                                                  rw [Nat.add_zero, show ((Kd.slice 3 (Kd.int .i64))).sz = 1 from rfl, Nat.mul_one] at hv270_0
                                                  replace hv270_0 := Option.some.inj (hv270_0.symm.trans hx270_0)
                                                  rw [hv270_0] at ge270_0
                                                  have HL270_0 := Aside0.mk (show Kd.R (Kd.int .i64) 3 _ _ _ _ (rd_L4 x8_6 x14_5) from ge270_0)
                                                  clear hv270_0 ge270_0
                                                  have HX270_0 := Aside0.mk hx270_0
                                                  clear hcc270 hce270
                                                  have HR270_0 := Aside0.mk hi270_0
                                                  have HC270_0 := Aside0.mk hl270_0
                                                  clear hi270_0 hl270_0
                                                  replace p270 := eq_true p270
                                                  replace q270 := eq_true q270
                                                  have p271 : 0 ≤ (x15_6 : Int) := of_decide_eq_true (by first | (with_reducible assumption) | assumption)
                                                  have q271 : x15_6 < ((rd_L4 x8_6 x14_5).length : Int) := of_decide_eq_true (by first | (with_reducible assumption) | assumption)
                                                  obtain ⟨ad271, e271, hx271_0⟩ := Kd.at_int (by repeat (first | (with_reducible exact HR270_0.out) | (with_reducible refine Kd.C_alloc ?_ _) | (with_reducible refine Kd.C_drewN ?_ _) | (with_reducible refine Kd.C_drew ?_) | exact HR270_0.out)) x15_6 p271 q271
                                                  cases e271
                                                  replace p271 := eq_true p271
                                                  replace q271 := eq_true q271
                                                  go_wp2
                                                  go_ret2
                                                  exact ⟨_, by first | rfl | (simp [errW_none, errW_some] <;> rfl) | (simp [*, errW_none, errW_some] <;> rfl), by first | exact Kd.S_nil _ _ _ _ _ | exact Kd.N_nil _ _ _ _ _ | exact Kd.V_nil _ _ _ _ _ | exact Kd.Q_nil _ _ _ _ _ | exact Kd.R_nil _ _ _ _ _, by repeat (first | (with_reducible first | exact HB.out | apply below_alloc | apply pw_below_drewN | apply below_drew1 | refine below_set ?_ GE269.out) | exact HB.out)⟩
                                                · rw [if_neg c46] at H
                                                  have c46b0 : decide (0 ≤ (rd (rd_L4 x8_6 x14_5) x15_6)) = false := decide_eq_false c46
                                                  clear c46
                                                  obtain ⟨y273, hy273⟩ : ∃ y_ : List Int, y_ = ((rd_L4 x8_6 x14_5).set (x15_6 : Int).toNat x12_3) := ⟨_, rfl⟩
                                                  replace H : (purflingref07_Slots.l4 k6 l0 a1 a2 (x8_6.set (x14_5 : Int).toNat y273) x12_3 x14_5 (wrap64 (x15_6 + 1)) ((rd_T40 l0 x12_3).f0) ((rd_T40 l0 x12_3).f1) ((rd_T40 l0 x12_3).f2) ((rd_T40 l0 x12_3).f3) ((rd_T40 l0 x12_3).f4)) = some (r1, r2) := by first | (rw [hy273]; with_reducible exact H) | (have H2_ := (Option.bind_some _ _).symm.trans H; rw [hy273]; with_reducible exact H2_) | (have H2_ := (Option.bind_some _ _).symm.trans H; with_reducible exact H2_) | with_reducible exact H | (rw [hy273]; exact H) | exact H
                                                  have Ny273 := Aside0.mk hy273
                                                  clear hy273
                                                  obtain ⟨y275, hy275⟩ : ∃ y_ : List (List Int), y_ = (x8_6.set (x14_5 : Int).toNat y273) := ⟨_, rfl⟩
                                                  replace H : (purflingref07_Slots.l4 k6 l0 a1 a2 y275 x12_3 x14_5 (wrap64 (x15_6 + 1)) ((rd_T40 l0 x12_3).f0) ((rd_T40 l0 x12_3).f1) ((rd_T40 l0 x12_3).f2) ((rd_T40 l0 x12_3).f3) ((rd_T40 l0 x12_3).f4)) = some (r1, r2) := by first | (rw [hy275]; with_reducible exact H) | (have H2_ := (Option.bind_some _ _).symm.trans H; rw [hy275]; with_reducible exact H2_) | (have H2_ := (Option.bind_some _ _).symm.trans H; with_reducible exact H2_) | with_reducible exact H | (rw [hy275]; exact H) | exact H
                                                  have Ny275 := Aside0.mk hy275
                                                  clear hy275
                                                  have H' := Aside0.mk H
                                                  clear H
                                                  have hcz50_0 : wr.cell? ⟨gb269, 0, none⟩ = some (.int .i64 ((rd_T40 l0 x12_3).f0)) := (blk_cell BK269.out 0).trans rfl
                                                  have hcz50_1 : wr.cell? ⟨gb269, 1, none⟩ = some (.int .i64 ((rd_T40 l0 x12_3).f1)) := (blk_cell BK269.out 1).trans rfl
                                                  have hcz50_2 : wr.cell? ⟨gb269, 2, none⟩ = some (.int .i64 ((rd_T40 l0 x12_3).f2)) := (blk_cell BK269.out 2).trans rfl
                                                  have hcz50_3 : wr.cell? ⟨gb269, 3, none⟩ = some (.int .i64 ((rd_T40 l0 x12_3).f3)) := (blk_cell BK269.out 3).trans rfl
                                                  have hcz50_4 : wr.cell? ⟨gb269, 4, none⟩ = some (.int .i64 ((rd_T40 l0 x12_3).f4)) := (blk_cell BK269.out 4).trans rfl
                                                  have hfz50_0 := blk_frozen BK269.out 0
                                                  have hfz50_1 := blk_frozen BK269.out 1
                                                  have hfz50_2 := blk_frozen BK269.out 2
                                                  have hfz50_3 := blk_frozen BK269.out 3
                                                  have hfz50_4 := blk_frozen BK269.out 4
                                                  obtain ⟨Ao51, co51, eo51⟩ := Kd.S_slice HO_8.out
                                                  subst eo51
                                                  have p270 : 0 ≤ (x14_5 : Int) := of_decide_eq_true (by first | (with_reducible assumption) | assumption)
                                                  have q270 : x14_5 < (x8_6.length : Int) := of_decide_eq_true (by first | (with_reducible assumption) | assumption)
                                                  obtain ⟨ad270, A270_0, c270_0, e270, hx270_0, hl270_0, hi270_0⟩ := at_L4 (Kd.S_reads' HO_8.out).2.2 x14_5 p270 q270
                                                  cases e270
                                                  obtain ⟨ce270, hce270, hMe270, hcc270⟩ := Kd.S_get HO_8.out [] x14_5 p270 (by first | exact q270 | exact of_decide_eq_true (by first | (with_reducible assumption) | assumption) | (have e_ := (Kd.S_reads' HO_8.out).1; omega))
                                                  obtain ⟨ve270_0, rfl, ge270_0⟩ := hMe270
                                                  have hv270_0 := hcc270 0 _ rfl
                                                  rw [Nat.add_zero, show ((Kd.slice 3 (Kd.int .i64))).sz = 1 from rfl, Nat.mul_one] at hv270_0
                                                  replace hv270_0 := Option.some.inj (hv270_0.symm.trans hx270_0)
                                                  rw [hv270_0] at ge270_0
                                                  have HL270_0 := Aside0.mk (show Kd.R (Kd.int .i64) 3 _ _ _ _ (rd_L4 x8_6 x14_5) from ge270_0)
                                                  clear hv270_0 ge270_0
                                                  have HX270_0 := Aside0.mk hx270_0
                                                  clear hcc270 hce270
                                                  have HR270_0 := Aside0.mk hi270_0
                                                  have HC270_0 := Aside0.mk hl270_0
                                                  clear hi270_0 hl270_0
                                                  replace p270 := eq_true p270
                                                  replace q270 := eq_true q270
                                                  have p271 : 0 ≤ (x15_6 : Int) := of_decide_eq_true (by first | (with_reducible assumption) | assumption)
                                                  have q271 : x15_6 < ((rd_L4 x8_6 x14_5).length : Int) := of_decide_eq_true (by first | (with_reducible assumption) | assumption)
                                                  obtain ⟨ad271, e271, hx271_0⟩ := Kd.at_int (by repeat (first | (with_reducible exact HR270_0.out) | (with_reducible refine Kd.C_alloc ?_ _) | (with_reducible refine Kd.C_drewN ?_ _) | (with_reducible refine Kd.C_drew ?_) | exact HR270_0.out)) x15_6 p271 q271
                                                  cases e271
                                                  replace p271 := eq_true p271
                                                  replace q271 := eq_true q271
                                                  have p272 : 0 ≤ (x14_5 : Int) := of_decide_eq_true (by first | (with_reducible assumption) | assumption)
                                                  have q272 : x14_5 < (x8_6.length : Int) := of_decide_eq_true (by first | (with_reducible assumption) | assumption)
                                                  obtain ⟨ad272, A272_0, c272_0, e272, hx272_0, hl272_0, hi272_0⟩ := at_L4 (Kd.S_reads' HO_8.out).2.2 x14_5 p272 q272
                                                  obtain rfl : ad270 = ad272 := (by injection e272)
                                                  obtain ⟨ce272, hce272, hMe272, hcc272⟩ := Kd.S_get HO_8.out [] x14_5 p272 (by first | exact q272 | exact of_decide_eq_true (by first | (with_reducible assumption) | assumption) | (have e_ := (Kd.S_reads' HO_8.out).1; omega))
                                                  obtain ⟨ve272_0, rfl, ge272_0⟩ := hMe272
                                                  have hv272_0 := hcc272 0 _ rfl
                                                  rw [Nat.add_zero, show ((Kd.slice 3 (Kd.int .i64))).sz = 1 from rfl, Nat.mul_one] at hv272_0
                                                  replace hv272_0 := Option.some.inj (hv272_0.symm.trans hx272_0)
                                                  rw [hv272_0] at ge272_0
                                                  have HL272_0 := Aside0.mk (show Kd.R (Kd.int .i64) 3 _ _ _ _ (rd_L4 x8_6 x14_5) from ge272_0)
                                                  clear hv272_0 ge272_0
                                                  have HX272_0 := Aside0.mk hx272_0
                                                  clear hcc272 hce272
                                                  have HR272_0 := Aside0.mk hi272_0
                                                  have HC272_0 := Aside0.mk hl272_0
                                                  clear hi272_0 hl272_0
                                                  replace p272 := eq_true p272
                                                  replace q272 := eq_true q272
                                                  have ea_ := Option.some.inj (hx270_0.symm.trans hx272_0)
                                                  injection ea_ with ea_ en_ ec_
                                                  subst ea_
                                                  subst ec_
                                                  clear en_
                                                  have p49 : 0 ≤ (x15_6 : Int) := of_decide_eq_true (by first | (with_reducible assumption) | assumption)
                                                  have q49 : (x15_6 : Int) < (((rd_L4 x8_6 x14_5).length : Int) : Int) := of_decide_eq_true (by first | (with_reducible assumption) | assumption)
                                                  obtain ⟨go49, co49, eo49, gb49, gl49, cl49, HG49⟩ := Kd.R_form HL272_0.out (by omega)
                                                  (first | cases eo49 | (injection eo49 with ea_ en_ ec_; (first | subst ea_ | (injection ea_ with ea_; subst ea_)); subst ec_; clear en_))
                                                  have GB49 := Aside0.mk gb49
                                                  have GG49 := Aside0.mk HG49
                                                  clear gb49 gl49 HG49
                                                  (first | simp only [add_plain] at hx271_0 | skip)
                                                  obtain ⟨hx49_0, hf49_0⟩ := Kd.R_celln 0 HL272_0.out (x15_6 : Int) p49 q49
                                                  replace p49 := eq_true p49
                                                  replace q49 := eq_true q49
                                                  have hq52 : (x14_5 : Int) < (x8_6.length : Int) := (by have h_ : (x14_5 : Int) < ((x8_6.length : Int) : Int) := of_decide_eq_true (by first | (with_reducible assumption) | assumption); first | exact h_ | (have e_ := (Kd.S_reads' HO_8.out).1; omega) | simpa only [List.length_set, List.length_set] using h_)
                                                  obtain ⟨oki52, ce52, hcl52, hM52, hcc52, hok52, hbk52⟩ := Kd.S_borrow HO_8.out [] (x14_5 : Int) (of_decide_eq_true (by first | (with_reducible assumption) | assumption)) hq52
                                                  obtain ⟨ve52_0, rfl, ge52_0⟩ := hM52
                                                  have hv52 := hcc52 0 _ rfl
                                                  rw [Nat.add_zero, show ((Kd.slice 3 (Kd.int .i64))).sz = 1 from rfl, Nat.mul_one] at hv52
                                                  replace hv52 := Option.some.inj (hv52.symm.trans HX272_0.out)
                                                  subst hv52
                                                  clear hcc52 hcl52
                                                  replace ge52_0 := (show Kd.R (Kd.int .i64) 3 _ _ _ _ (rd_L4 x8_6 x14_5) from ge52_0)
                                                  have HP52 := Kd.R_putg ge52_0 (x15_6 : Int) x12_3
                                                  go_wp2_with (first | ((with_reducible refine gate_store (t := 3) (p := 147) rfl ?_); refine store_event (t := 3) (p := 147) (v := ?vo_w53) (w1 := (wr.setCell ⟨go49, (x15_6 : Int).toNat, none⟩ (.int .i64 x12_3))) ?hg ?ho ?hn ?hr ?_; (case ho => rfl); (case hg => rfl); (case hn => rfl); (case hr => first | (go_simp; done) | (go_simp; rfl)); intro w53 hw; have hg : wr.grownBy w53 (some go49) := (by rw [hw]; exact HP52.2); have hz_ : Kd.R (Kd.int .i64) 3 w53 w.heap.size oki52 (.slice (some ⟨go49, 0, none⟩) (rd_L4 x8_6 x14_5).length c270_0) y273 := (by rw [hw, Ny273.out]; exact HP52.1); have hp_ : Kd.S (Kd.slice 3 (Kd.int .i64)) 23 w53 w.heap.size (fun _ => True) (.slice (some ad270) x8_6.length co51) y275 := (by rw [Ny275.out]; exact hbk52 hg (fun k_ e_ => by injection e_ with e_; subst e_; exact ge52_0.1 _ rfl) (Kd.M_row hz_)); have hm_ := Kd.R_mono hz_ hok52; clear HP52 hbk52; have n0_ := Aside0.mk (hp_); have n1_ := Aside0.mk (blk_grown (g := gb269) (o := .cells #[.int .i64 ((rd_T40 l0 x12_3).f0), .int .i64 ((rd_T40 l0 x12_3).f1), .int .i64 ((rd_T40 l0 x12_3).f2), .int .i64 ((rd_T40 l0 x12_3).f3), .int .i64 ((rd_T40 l0 x12_3).f4)] 40 (0, 0)) (by (with_reducible repeat (first | refine blk_drewN ?_ _ | refine blk_drew ?_ | refine blk_alloc ?_ _)); exact BK269.out) hg (Kd.R_ne HL272_0.out BK269.out (by decide))); have n2_ := Aside0.mk ((by rw [hw]; exact below_set (HB.out) GB49.out : Below w.heap.size w w53)); have n3_ := Aside0.mk (hm_); have n4_ := Aside0.mk ((Kd.R_reads' hm_).2.1); clear HO_8; clear BK269; clear HB; clear HL270_0; clear HL272_0; have HO_8 := n0_; have BK269 := n1_; have HB := n2_; have HL276 := n3_; have HC274 := n4_; clear n0_ n1_ n2_ n3_ n4_; clear hg hw hp_ hz_ hm_ hok52))
                                                  go_roundg k6
                                                  case measure => have := HJ3.out; have := HK2.out; have := HK3.out; have := HJ18.out; have := HK5.out; have := HK6.out; omega
                                                  case rel => exact ⟨(y275), (wrap64 (x15_6 + 1)), (by first | rfl | (simp; done) | (simp [*]; done)), H', ⟨by have := HJ3.out; have := HK2.out; have := HK3.out; have := HJ18.out; have := HK5.out; have := HK6.out; omega⟩, ⟨by (with_reducible repeat (first | apply Kd.S_alloc | apply Kd.S_drewN | apply Kd.S_drew)); exact HO_8.out⟩, ⟨by (with_reducible repeat (first | refine blk_drewN ?_ _ | refine blk_drew ?_ | refine blk_alloc ?_ _)); exact BK269.out⟩, ⟨by repeat (first | (with_reducible first | exact HB.out | apply below_alloc | apply pw_below_drewN | apply below_drew1 | refine below_set ?_ GE269.out) | exact HB.out)⟩⟩
                                              · rw [if_neg c45] at H
                                                exact absurd H (by simp)
                                            · rw [if_neg c44] at H
                                              exact absurd H (by simp)
                                          · rw [if_neg c43] at H
                                            exact absurd H (by simp)
                                        · rw [if_neg c42] at H
                                          exact absurd H (by simp)
                                      · rw [if_neg c41] at H
                                        have c41b0 : decide (x15_6 < (wrap64 (((rd_T40 l0 x12_3).f2) + ((rd_T40 l0 x12_3).f4)))) = false := decide_eq_false c41
                                        clear c41
                                        have H' := Aside0.mk H
                                        clear H
                                        have hcz54_0 : wr.cell? ⟨gb269, 0, none⟩ = some (.int .i64 ((rd_T40 l0 x12_3).f0)) := (blk_cell BK269.out 0).trans rfl
                                        have hcz54_1 : wr.cell? ⟨gb269, 1, none⟩ = some (.int .i64 ((rd_T40 l0 x12_3).f1)) := (blk_cell BK269.out 1).trans rfl
                                        have hcz54_2 : wr.cell? ⟨gb269, 2, none⟩ = some (.int .i64 ((rd_T40 l0 x12_3).f2)) := (blk_cell BK269.out 2).trans rfl
                                        have hcz54_3 : wr.cell? ⟨gb269, 3, none⟩ = some (.int .i64 ((rd_T40 l0 x12_3).f3)) := (blk_cell BK269.out 3).trans rfl
                                        have hcz54_4 : wr.cell? ⟨gb269, 4, none⟩ = some (.int .i64 ((rd_T40 l0 x12_3).f4)) := (blk_cell BK269.out 4).trans rfl
                                        have hfz54_0 := blk_frozen BK269.out 0
                                        have hfz54_1 := blk_frozen BK269.out 1
                                        have hfz54_2 := blk_frozen BK269.out 2
                                        have hfz54_3 := blk_frozen BK269.out 3
                                        have hfz54_4 := blk_frozen BK269.out 4
                                        go_wp2
                                        go_roundg k6
                                        case measure => have := HJ3.out; have := HK2.out; have := HK3.out; have := HJ18.out; have := HK5.out; have := HK6.out; omega
                                        case rel => exact ⟨(x8_6), (wrap64 (x14_5 + 1)), (by first | rfl | (simp; done) | (simp [*]; done)), H', ⟨by have := HJ3.out; have := HK2.out; have := HK3.out; have := HJ18.out; have := HK5.out; have := HK6.out; omega⟩, ⟨by (with_reducible repeat (first | apply Kd.S_alloc | apply Kd.S_drewN | apply Kd.S_drew)); exact HO_8.out⟩, ⟨by (with_reducible repeat (first | refine blk_drewN ?_ _ | refine blk_drew ?_ | refine blk_alloc ?_ _)); exact BK269.out⟩, ⟨by repeat (first | (with_reducible first | exact HB.out | apply below_alloc | apply pw_below_drewN | apply below_drew1 | refine below_set ?_ GE269.out) | exact HB.out)⟩⟩
                                · rw [if_neg c39] at H
                                  have c39b0 : decide (x14_5 < (wrap64 (((rd_T40 l0 x12_3).f1) + ((rd_T40 l0 x12_3).f3)))) = false := decide_eq_false c39
                                  clear c39
                                  have H' := Aside0.mk H
                                  clear H
                                  have hcz55_0 : wr.cell? ⟨gb269, 0, none⟩ = some (.int .i64 ((rd_T40 l0 x12_3).f0)) := (blk_cell BK269.out 0).trans rfl
                                  have hcz55_1 : wr.cell? ⟨gb269, 1, none⟩ = some (.int .i64 ((rd_T40 l0 x12_3).f1)) := (blk_cell BK269.out 1).trans rfl
                                  have hcz55_2 : wr.cell? ⟨gb269, 2, none⟩ = some (.int .i64 ((rd_T40 l0 x12_3).f2)) := (blk_cell BK269.out 2).trans rfl
                                  have hcz55_3 : wr.cell? ⟨gb269, 3, none⟩ = some (.int .i64 ((rd_T40 l0 x12_3).f3)) := (blk_cell BK269.out 3).trans rfl
                                  have hcz55_4 : wr.cell? ⟨gb269, 4, none⟩ = some (.int .i64 ((rd_T40 l0 x12_3).f4)) := (blk_cell BK269.out 4).trans rfl
                                  have hfz55_0 := blk_frozen BK269.out 0
                                  have hfz55_1 := blk_frozen BK269.out 1
                                  have hfz55_2 := blk_frozen BK269.out 2
                                  have hfz55_3 := blk_frozen BK269.out 3
                                  have hfz55_4 := blk_frozen BK269.out 4
                                  go_wp2
                                  go_roundg k5
                                  case measure => have := HJ3.out; have := HK2.out; have := HK3.out; have := HJ18.out; have := HK5.out; omega
                                  case rel => exact ⟨(x8_5), (wrap64 (x12_3 + 1)), (by first | rfl | (simp; done) | (simp [*]; done)), H', ⟨by have := HJ3.out; have := HK2.out; have := HK3.out; have := HJ18.out; have := HK5.out; omega⟩, ⟨by (with_reducible repeat (first | apply Kd.S_alloc | apply Kd.S_drewN | apply Kd.S_drew)); exact HO_8.out⟩, ⟨by repeat (first | (with_reducible first | exact HB.out | apply below_alloc | apply pw_below_drewN | apply below_drew1 | refine below_set ?_ GE269.out) | exact HB.out)⟩⟩
                    · rw [if_neg c18] at H
                      exact absurd H (by simp)
                  · rw [if_neg c17] at H
                    have c17b0 : decide (x12_3 < (l0.length : Int)) = false := decide_eq_false c17
                    clear c17
                    simp only [Option.some.injEq, Prod.mk.injEq] at H
                    obtain ⟨rfl, rfl⟩ := H
                    go_wp2
                    go_ret2
                    exact ⟨_, by first | rfl | (simp [errW_none, errW_some] <;> rfl) | (simp [*, errW_none, errW_some] <;> rfl), by (with_reducible repeat (first | apply Kd.S_alloc | apply Kd.S_drewN | apply Kd.S_drew)); exact HO_8.out, by repeat (first | (with_reducible first | exact HB.out | apply below_alloc | apply pw_below_drewN | apply below_drew1) | exact HB.out)⟩

end Go.Proofs.Ytfoocmmjefdojaa.K
