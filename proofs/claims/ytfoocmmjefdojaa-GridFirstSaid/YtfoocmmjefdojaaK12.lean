-- PRINTED by print.py (a twelfth state) out of the translation. Not trusted: Lean checks it.
import Derived.Test.YtfoocmmjefdojaaGrid
import Derived.Test.YtfoocmmjefdojaaSlots
import Derived.Test.YtfoocmmjefdojaaK0
import Derived.Test.YtfoocmmjefdojaaK4
import Derived.Test.YtfoocmmjefdojaaK5
namespace Go.Proofs.Ytfoocmmjefdojaa.K
open Go.RowKit Go.Proofs.YtfoocmmjefdojaaW.PrintWords Go.Proofs.YtfoocmmjefdojaaW.PrintLast Go.Proofs.YtfoocmmjefdojaaW.PrintMore
attribute [local go_sem] max2_int min2_int max_two min_two max_three min_three max_four min_four   -- for this text's walks alone
set_option linter.unusedVariables false
set_option linter.unusedSimpArgs false

/-! ### purflinglaw07_GridFirst: function 6 -/
theorem calls_len_purflinglaw07_GridFirst {P : Program} {k m n : Nat} {w : World} {R : Ending → World → Prop} (f : Nat → Array Value) (h : m = n) (c : Calls P k (f m) w R) : Calls P k (f n) w R := h ▸ c
mutual
def purflinglaw07_GridFirst.j0 : Nat → Bool → List (S40) → List (List Int) → Bool → Option (Bool)
  | 0, _, _, _, _ => none
  | k + 1, x5, x6, x9, x48 => if x48 = true then (some false) else (purflinglaw07_GridFirst.l0 k x5 x6 x9 0)
def purflinglaw07_GridFirst.l0 : Nat → Bool → List (S40) → List (List Int) → Int → Option (Bool)
  | 0, _, _, _, _ => none
  | k + 1, x5, x6, x9, x11 => if x11 < (x6.length : Int) then (if x11 > 0 then (if 0 ≤ (wrap64 (x11 - 1)) then (if (wrap64 (x11 - 1)) < (x6.length : Int) then (if 0 ≤ x11 then (purflinglaw07_GridFirst.j2 k x5 x6 x9 x11 0 (((rd_T40 x6 (wrap64 (x11 - 1))).f1) == ((rd_T40 x6 x11).f1))) else (none)) else (none)) else (none)) else (purflinglaw07_GridFirst.j2 k x5 x6 x9 x11 0 false)) else (some x5)
def purflinglaw07_GridFirst.j2 : Nat → Bool → List (S40) → List (List Int) → Int → Int → Bool → Option (Bool)
  | 0, _, _, _, _, _, _ => none
  | k + 1, x5, x6, x9, x11, x12, x70 => if x70 = true then (if 0 ≤ (wrap64 (x11 - 1)) then (if (wrap64 (x11 - 1)) < (x6.length : Int) then (purflinglaw07_GridFirst.j3 k x5 x6 x9 x11 (wrap64 (((rd_T40 x6 (wrap64 (x11 - 1))).f2) + ((rd_T40 x6 (wrap64 (x11 - 1))).f4)))) else (none)) else (none)) else (purflinglaw07_GridFirst.j3 k x5 x6 x9 x11 x12)
def purflinglaw07_GridFirst.j3 : Nat → Bool → List (S40) → List (List Int) → Int → Int → Option (Bool)
  | 0, _, _, _, _, _ => none
  | k + 1, x5, x6, x9, x11, x12 => purflinglaw07_GridFirst.l1 k x5 x6 x9 x11 x12
def purflinglaw07_GridFirst.l1 : Nat → Bool → List (S40) → List (List Int) → Int → Int → Option (Bool)
  | 0, _, _, _, _, _ => none
  | k + 1, x5, x6, x9, x11, x13 => if 0 ≤ x11 then (if x11 < (x6.length : Int) then (if x13 < ((rd_T40 x6 x11).f2) then (if 0 ≤ ((rd_T40 x6 x11).f1) then (if ((rd_T40 x6 x11).f1) < (x9.length : Int) then (if ((rd_L4 x9 ((rd_T40 x6 x11).f1)).length : Int) ≤ x13 then (some false) else (if 0 ≤ x13 then (if x13 < ((rd_L4 x9 ((rd_T40 x6 x11).f1)).length : Int) then (if (rd (rd_L4 x9 ((rd_T40 x6 x11).f1)) x13) < 0 then (some false) else (if (rd (rd_L4 x9 ((rd_T40 x6 x11).f1)) x13) ≥ x11 then (some false) else (if 0 ≤ (rd (rd_L4 x9 ((rd_T40 x6 x11).f1)) x13) then (if (rd (rd_L4 x9 ((rd_T40 x6 x11).f1)) x13) < (x6.length : Int) then (if ((rd_T40 x6 (rd (rd_L4 x9 ((rd_T40 x6 x11).f1)) x13)).f1) ≥ ((rd_T40 x6 x11).f1) then (some false) else (purflinglaw07_GridFirst.l1 k x5 x6 x9 x11 (wrap64 (x13 + 1)))) else (none)) else (none)))) else (none)) else (none))) else (none)) else (none)) else (purflinglaw07_GridFirst.l0 k x5 x6 x9 (wrap64 (x11 + 1)))) else (none)) else (none)
end
def purflinglaw07_GridFirst.f (k : Nat) (l0 : List (List (S34))) (l1 : List Int) : Option (Bool) := (purflinglaw07_shown.f k).bind fun t230 => ((purflinglaw07_Cut.f k l0).bind fun t231 => (if 0 ≤ (mn (l1.length : Int) 21) then (if (mn (l1.length : Int) 21) ≤ (l1.length : Int) then ((grid_Lay.f t231 (l1.take ((mn (l1.length : Int) 21) : Int).toNat)).bind fun bt235 => (if bt235.2.2 = 0 then ((grid_Slots.f bt235.1 (t231.length : Int) bt235.2.1).bind fun bt240 => (if bt240.2 = 0 then (purflinglaw07_GridFirst.j0 k t230 bt235.1 bt240.1 ((bt240.1.length : Int) != (t231.length : Int))) else (purflinglaw07_GridFirst.j0 k t230 bt235.1 bt240.1 true))) else (some t230))) else (none)) else (none)))
theorem purflinglaw07_GridFirst.mono_l : ∀ k, (∀ y0 y1 y2 y3, LeO (purflinglaw07_GridFirst.j0 k y0 y1 y2 y3) (purflinglaw07_GridFirst.j0 (k + 1) y0 y1 y2 y3)) ∧ (∀ y0 y1 y2 y3, LeO (purflinglaw07_GridFirst.l0 k y0 y1 y2 y3) (purflinglaw07_GridFirst.l0 (k + 1) y0 y1 y2 y3)) ∧ (∀ y0 y1 y2 y3 y4 y5, LeO (purflinglaw07_GridFirst.j2 k y0 y1 y2 y3 y4 y5) (purflinglaw07_GridFirst.j2 (k + 1) y0 y1 y2 y3 y4 y5)) ∧ (∀ y0 y1 y2 y3 y4, LeO (purflinglaw07_GridFirst.j3 k y0 y1 y2 y3 y4) (purflinglaw07_GridFirst.j3 (k + 1) y0 y1 y2 y3 y4)) ∧ (∀ y0 y1 y2 y3 y4, LeO (purflinglaw07_GridFirst.l1 k y0 y1 y2 y3 y4) (purflinglaw07_GridFirst.l1 (k + 1) y0 y1 y2 y3 y4))
  | 0 => ⟨fun _ _ _ _ r h => by simp [purflinglaw07_GridFirst.j0] at h, fun _ _ _ _ r h => by simp [purflinglaw07_GridFirst.l0] at h, fun _ _ _ _ _ _ r h => by simp [purflinglaw07_GridFirst.j2] at h, fun _ _ _ _ _ r h => by simp [purflinglaw07_GridFirst.j3] at h, fun _ _ _ _ _ r h => by simp [purflinglaw07_GridFirst.l1] at h⟩
  | k + 1 => by
    obtain ⟨ih0, ih1, ih2, ih3, ih4⟩ := purflinglaw07_GridFirst.mono_l k
    refine ⟨?_, ?_, ?_, ?_, ?_⟩
    · intro y0 y1 y2 y3
      unfold purflinglaw07_GridFirst.j0
      repeat' first
      | (with_reducible exact ih0 _ _ _ _)
      | (with_reducible exact ih1 _ _ _ _)
      | (with_reducible exact ih2 _ _ _ _ _ _)
      | (with_reducible exact ih3 _ _ _ _ _)
      | (with_reducible exact ih4 _ _ _ _ _)
      | (with_reducible exact purflinglaw07_Cut.mono _ _)
      | (with_reducible exact purflinglaw07_shown.mono _)
      | (with_reducible exact LeO.refl _)
      | (with_reducible exact LeO.none _)
      | (with_reducible refine LeO.ite ?_ ?_)
      | (with_reducible refine LeO.bind ?_ (fun _ => ?_))
      | exact ih0 _ _ _ _
      | exact ih1 _ _ _ _
      | exact ih2 _ _ _ _ _ _
      | exact ih3 _ _ _ _ _
      | exact ih4 _ _ _ _ _
      | exact purflinglaw07_Cut.mono _ _
      | exact purflinglaw07_shown.mono _
      | exact LeO.none _
      | refine LeO.ite ?_ ?_
      | refine LeO.bind ?_ (fun _ => ?_)
    · intro y0 y1 y2 y3
      unfold purflinglaw07_GridFirst.l0
      repeat' first
      | (with_reducible exact ih0 _ _ _ _)
      | (with_reducible exact ih1 _ _ _ _)
      | (with_reducible exact ih2 _ _ _ _ _ _)
      | (with_reducible exact ih3 _ _ _ _ _)
      | (with_reducible exact ih4 _ _ _ _ _)
      | (with_reducible exact purflinglaw07_Cut.mono _ _)
      | (with_reducible exact purflinglaw07_shown.mono _)
      | (with_reducible exact LeO.refl _)
      | (with_reducible exact LeO.none _)
      | (with_reducible refine LeO.ite ?_ ?_)
      | (with_reducible refine LeO.bind ?_ (fun _ => ?_))
      | exact ih0 _ _ _ _
      | exact ih1 _ _ _ _
      | exact ih2 _ _ _ _ _ _
      | exact ih3 _ _ _ _ _
      | exact ih4 _ _ _ _ _
      | exact purflinglaw07_Cut.mono _ _
      | exact purflinglaw07_shown.mono _
      | exact LeO.none _
      | refine LeO.ite ?_ ?_
      | refine LeO.bind ?_ (fun _ => ?_)
    · intro y0 y1 y2 y3 y4 y5
      unfold purflinglaw07_GridFirst.j2
      repeat' first
      | (with_reducible exact ih0 _ _ _ _)
      | (with_reducible exact ih1 _ _ _ _)
      | (with_reducible exact ih2 _ _ _ _ _ _)
      | (with_reducible exact ih3 _ _ _ _ _)
      | (with_reducible exact ih4 _ _ _ _ _)
      | (with_reducible exact purflinglaw07_Cut.mono _ _)
      | (with_reducible exact purflinglaw07_shown.mono _)
      | (with_reducible exact LeO.refl _)
      | (with_reducible exact LeO.none _)
      | (with_reducible refine LeO.ite ?_ ?_)
      | (with_reducible refine LeO.bind ?_ (fun _ => ?_))
      | exact ih0 _ _ _ _
      | exact ih1 _ _ _ _
      | exact ih2 _ _ _ _ _ _
      | exact ih3 _ _ _ _ _
      | exact ih4 _ _ _ _ _
      | exact purflinglaw07_Cut.mono _ _
      | exact purflinglaw07_shown.mono _
      | exact LeO.none _
      | refine LeO.ite ?_ ?_
      | refine LeO.bind ?_ (fun _ => ?_)
    · intro y0 y1 y2 y3 y4
      unfold purflinglaw07_GridFirst.j3
      repeat' first
      | (with_reducible exact ih0 _ _ _ _)
      | (with_reducible exact ih1 _ _ _ _)
      | (with_reducible exact ih2 _ _ _ _ _ _)
      | (with_reducible exact ih3 _ _ _ _ _)
      | (with_reducible exact ih4 _ _ _ _ _)
      | (with_reducible exact purflinglaw07_Cut.mono _ _)
      | (with_reducible exact purflinglaw07_shown.mono _)
      | (with_reducible exact LeO.refl _)
      | (with_reducible exact LeO.none _)
      | (with_reducible refine LeO.ite ?_ ?_)
      | (with_reducible refine LeO.bind ?_ (fun _ => ?_))
      | exact ih0 _ _ _ _
      | exact ih1 _ _ _ _
      | exact ih2 _ _ _ _ _ _
      | exact ih3 _ _ _ _ _
      | exact ih4 _ _ _ _ _
      | exact purflinglaw07_Cut.mono _ _
      | exact purflinglaw07_shown.mono _
      | exact LeO.none _
      | refine LeO.ite ?_ ?_
      | refine LeO.bind ?_ (fun _ => ?_)
    · intro y0 y1 y2 y3 y4
      unfold purflinglaw07_GridFirst.l1
      repeat' first
      | (with_reducible exact ih0 _ _ _ _)
      | (with_reducible exact ih1 _ _ _ _)
      | (with_reducible exact ih2 _ _ _ _ _ _)
      | (with_reducible exact ih3 _ _ _ _ _)
      | (with_reducible exact ih4 _ _ _ _ _)
      | (with_reducible exact purflinglaw07_Cut.mono _ _)
      | (with_reducible exact purflinglaw07_shown.mono _)
      | (with_reducible exact LeO.refl _)
      | (with_reducible exact LeO.none _)
      | (with_reducible refine LeO.ite ?_ ?_)
      | (with_reducible refine LeO.bind ?_ (fun _ => ?_))
      | exact ih0 _ _ _ _
      | exact ih1 _ _ _ _
      | exact ih2 _ _ _ _ _ _
      | exact ih3 _ _ _ _ _
      | exact ih4 _ _ _ _ _
      | exact purflinglaw07_Cut.mono _ _
      | exact purflinglaw07_shown.mono _
      | exact LeO.none _
      | refine LeO.ite ?_ ?_
      | refine LeO.bind ?_ (fun _ => ?_)
theorem purflinglaw07_GridFirst.mono : ∀ a0 a1 k, LeO (purflinglaw07_GridFirst.f k a0 a1) (purflinglaw07_GridFirst.f (k + 1) a0 a1) := by
  intro a0 a1 k
  obtain ⟨ih0, ih1, ih2, ih3, ih4⟩ := purflinglaw07_GridFirst.mono_l k
  unfold purflinglaw07_GridFirst.f
  repeat' first
      | (with_reducible exact ih0 _ _ _ _)
      | (with_reducible exact ih1 _ _ _ _)
      | (with_reducible exact ih2 _ _ _ _ _ _)
      | (with_reducible exact ih3 _ _ _ _ _)
      | (with_reducible exact ih4 _ _ _ _ _)
      | (with_reducible exact purflinglaw07_Cut.mono _ _)
      | (with_reducible exact purflinglaw07_shown.mono _)
      | (with_reducible exact LeO.refl _)
      | (with_reducible exact LeO.none _)
      | (with_reducible refine LeO.ite ?_ ?_)
      | (with_reducible refine LeO.bind ?_ (fun _ => ?_))
      | exact ih0 _ _ _ _
      | exact ih1 _ _ _ _
      | exact ih2 _ _ _ _ _ _
      | exact ih3 _ _ _ _ _
      | exact ih4 _ _ _ _ _
      | exact purflinglaw07_Cut.mono _ _
      | exact purflinglaw07_shown.mono _
      | exact LeO.none _
      | refine LeO.ite ?_ ?_
      | refine LeO.bind ?_ (fun _ => ?_)
set_option maxHeartbeats 8000000 in
set_option maxRecDepth 100000 in
theorem purflinglaw07_GridFirst.calls (k : Nat) (A0 : Option Addr) (c0 : Nat) (l0 : List (List (S34))) (A1 : Option Addr) (c1 : Nat) (l1 : List Int) (r : Bool) (w : World) (hr0 : Kd.C (Kd.slice 34 k34) w A0 l0.length l0) (hc0 : l0.length ≤ c0) (hr1 : Kd.C (Kd.int .i64) w A1 l1.length l1) (hc1 : l1.length ≤ c1) (h : purflinglaw07_GridFirst.f k l0 l1 = some r) :
    Calls Try.prog 6 #[.slice A0 l0.length c0, .slice A1 l1.length c1] w fun e w' => e = .returned (.bool r) ∧ Below w.heap.size w w' := by
  have HR0 := Aside0.mk hr0
  have HC0 := Aside0.mk hc0
  clear hr0 hc0
  have HR1 := Aside0.mk hr1
  have HC1 := Aside0.mk hc1
  clear hr1 hc1
  have HB := Aside0.mk (Below.refl w.heap.size w)
  have H : ((purflinglaw07_shown.f k).bind fun t230 => ((purflinglaw07_Cut.f k l0).bind fun t231 => (if 0 ≤ (mn (l1.length : Int) 21) then (if (mn (l1.length : Int) 21) ≤ (l1.length : Int) then ((grid_Lay.f t231 (l1.take ((mn (l1.length : Int) 21) : Int).toNat)).bind fun bt235 => (if bt235.2.2 = 0 then ((grid_Slots.f bt235.1 (t231.length : Int) bt235.2.1).bind fun bt240 => (if bt240.2 = 0 then (purflinglaw07_GridFirst.j0 k t230 bt235.1 bt240.1 ((bt240.1.length : Int) != (t231.length : Int))) else (purflinglaw07_GridFirst.j0 k t230 bt235.1 bt240.1 true))) else (some t230))) else (none)) else (none)))) = some r := h
  clear h
  replace H := Option.bind_eq_some_iff.mp H
  obtain ⟨t230, A30, H⟩ := H
  replace H : ((purflinglaw07_Cut.f k l0).bind fun t231 => (if 0 ≤ (mn (l1.length : Int) 21) then (if (mn (l1.length : Int) 21) ≤ (l1.length : Int) then ((grid_Lay.f t231 (l1.take ((mn (l1.length : Int) 21) : Int).toNat)).bind fun bt235 => (if bt235.2.2 = 0 then ((grid_Slots.f bt235.1 (t231.length : Int) bt235.2.1).bind fun bt240 => (if bt240.2 = 0 then (purflinglaw07_GridFirst.j0 k t230 bt235.1 bt240.1 ((bt240.1.length : Int) != (t231.length : Int))) else (purflinglaw07_GridFirst.j0 k t230 bt235.1 bt240.1 true))) else (some t230))) else (none)) else (none))) = some r := H
  have A3 := Aside0.mk A30
  clear A30
  replace H := Option.bind_eq_some_iff.mp H
  obtain ⟨t231, A40, H⟩ := H
  replace H : (if 0 ≤ (mn (l1.length : Int) 21) then (if (mn (l1.length : Int) 21) ≤ (l1.length : Int) then ((grid_Lay.f t231 (l1.take ((mn (l1.length : Int) 21) : Int).toNat)).bind fun bt235 => (if bt235.2.2 = 0 then ((grid_Slots.f bt235.1 (t231.length : Int) bt235.2.1).bind fun bt240 => (if bt240.2 = 0 then (purflinglaw07_GridFirst.j0 k t230 bt235.1 bt240.1 ((bt240.1.length : Int) != (t231.length : Int))) else (purflinglaw07_GridFirst.j0 k t230 bt235.1 bt240.1 true))) else (some t230))) else (none)) else (none)) = some r := H
  have A4 := Aside0.mk A40
  clear A40
  obtain ⟨ji5, hji5⟩ : ∃ j_ : Int, (mn (l1.length : Int) 21) = j_ := ⟨_, rfl⟩
  replace H : (if 0 ≤ (ji5) then (if (ji5) ≤ (l1.length : Int) then ((grid_Lay.f t231 (l1.take ((ji5) : Int).toNat)).bind fun bt235 => (if bt235.2.2 = 0 then ((grid_Slots.f bt235.1 (t231.length : Int) bt235.2.1).bind fun bt240 => (if bt240.2 = 0 then (purflinglaw07_GridFirst.j0 k t230 bt235.1 bt240.1 ((bt240.1.length : Int) != (t231.length : Int))) else (purflinglaw07_GridFirst.j0 k t230 bt235.1 bt240.1 true))) else (some t230))) else (none)) else (none)) = some r := by first | (rw [hji5] at H; exact H) | (simp only [hji5] at H ⊢; exact H)
  (try rw [hji5] at A3)
  (try rw [hji5] at A4)
  (try (have hji5h : ji5 ≤ 21 := by (rw [← hji5]; unfold mn; (repeat' split) <;> omega)))
  (try (have hji5g : ji5 ≤ 64 := by omega))
  (try (have hji5l : 0 ≤ ji5 := by (rw [← hji5]; unfold mn; (repeat' split) <;> omega)))
  (try (have hji5m : 0 ≤ ji5 := by omega))
  have hji5_ : (if 21 < (l1.length : Int) then 21 else (l1.length : Int)) = ji5 := hji5
  by_cases c6 : 0 ≤ (ji5)
  · rw [if_pos c6] at H
    have c6b0 := eq_true c6
    have c6b1 : decide (0 ≤ (ji5)) = true := decide_eq_true c6
    clear c6
    by_cases c7 : (ji5) ≤ (l1.length : Int)
    · rw [if_pos c7] at H
      have c7b0 := eq_true c7
      have c7b1 : decide ((ji5) ≤ (l1.length : Int)) = true := decide_eq_true c7
      clear c7
      replace H := Option.bind_eq_some_iff.mp H
      obtain ⟨⟨t235, t236, t237⟩, A80, H⟩ := H
      replace H : (if t237 = 0 then ((grid_Slots.f t235 (t231.length : Int) t236).bind fun bt240 => (if bt240.2 = 0 then (purflinglaw07_GridFirst.j0 k t230 t235 bt240.1 ((bt240.1.length : Int) != (t231.length : Int))) else (purflinglaw07_GridFirst.j0 k t230 t235 bt240.1 true))) else (some t230)) = some r := H
      have A8 := Aside0.mk A80
      clear A80
      by_cases c9 : t237 = 0
      · rw [if_pos c9] at H
        have c9b0 : (t237 == 0) = true := beq_iff_eq.mpr c9
        have c9b1 : (t237 != 0) = false := bne_eq_false_iff_eq.mpr c9
        clear c9
        replace H := Option.bind_eq_some_iff.mp H
        obtain ⟨⟨t240, t241⟩, A100, H⟩ := H
        replace H : (if t241 = 0 then (purflinglaw07_GridFirst.j0 k t230 t235 t240 ((t240.length : Int) != (t231.length : Int))) else (purflinglaw07_GridFirst.j0 k t230 t235 t240 true)) = some r := H
        have A10 := Aside0.mk A100
        clear A100
        have HC11 := Aside0.mk H
        clear H
        go_enter Try.func6, Try.ntmps6
        go_upto_region 8 with (first | (go_at_call 15; (with_reducible refine (purflinglaw07_shown.calls k  t230 _ A3.out).mono ?_); rintro e w12 ⟨rfl, hb⟩; have n0_ := Aside0.mk (below_step (by repeat (first | (with_reducible first | exact HB.out | apply below_alloc | apply pw_below_drewN | apply below_drew1) | exact HB.out)) hb); clear HB; have HB := n0_; clear n0_; (try clear hb); (try clear hb2); (try clear hk); (try clear hi)) | (go_at_call 16; (with_reducible refine (purflinglaw07_Cut.calls k _ _ l0 t231 _ ?side1 ?side2 A4.out).mono ?_); (case side1 => repeat (first | exact (Kd.C_below HR0.out HB.out) | (with_reducible refine Kd.C_alloc ?_ _) | (with_reducible refine Kd.C_drewN ?_ _) | (with_reducible refine Kd.C_drew ?_))); (case side2 => exact HC0.out); rintro e w13 ⟨v232, rfl, ho0, hb⟩; have n0_ := Aside0.mk (Kd.S_lower ho0 (below_size (by repeat (first | (with_reducible first | exact HB.out | apply below_alloc | apply pw_below_drewN | apply below_drew1) | exact HB.out)))); have n1_ := Aside0.mk (below_step (by repeat (first | (with_reducible first | exact HB.out | apply below_alloc | apply pw_below_drewN | apply below_drew1) | exact HB.out)) hb); clear HB; have HO233 := n0_; have HB := n1_; clear n0_ n1_; (try clear hb); (try clear hb2); (try clear hk); (try clear hi); (try clear ho0); obtain ⟨i014, hi014, _, hsz14, _⟩ := info_parts info3; obtain ⟨hcut14, hA14, hC14⟩ := print_take_of (P := Try.prog) (Value.int .i64) 0 23 3 .i64 Try.underlying23 hi014 hsz14 A1 c1 l1 (ji5) (of_decide_eq_true (by first | (with_reducible assumption) | assumption)) (of_decide_eq_true (by first | (with_reducible assumption) | assumption)) HC1.out; have HR234 := Aside0.mk (Kd.C_of_reads (h1 := fun _ => rfl) (hA14 _ (Kd.reads_of_C HR1.out))); have HC234 := Aside0.mk hC14; clear hA14 hC14 hi014 hsz14; obtain ⟨Ao15, co15, eo15⟩ := Kd.S_slice HO233.out; subst eo15) | (go_at_call 17; (first | (with_reducible refine (calls_len_purflinglaw07_GridFirst (fun n_ : Nat => #[.slice Ao15 t231.length co15, .slice A1 n_ c1]) (show (l1.take ((ji5) : Int).toNat).length = (ji5).toNat from (by rw [List.length_take]; have h_ : ((ji5) : Int) ≤ (l1.length : Int) := of_decide_eq_true (by first | (with_reducible assumption) | assumption); omega)) (grid_Lay.calls _ _ t231 _ _ (l1.take ((ji5) : Int).toNat) t235 t236 t237 _ ?side1 ?side2 ?side3 ?side4 A8.out)).mono ?_) | (with_reducible refine (grid_Lay.calls _ _ t231 _ _ (l1.take ((ji5) : Int).toNat) t235 t236 t237 _ ?side1 ?side2 ?side3 ?side4 A8.out).mono ?_)); (case side1 => repeat (first | exact (Kd.S_reads' HO233.out).2.2 | (with_reducible refine Kd.C_alloc ?_ _) | (with_reducible refine Kd.C_drewN ?_ _) | (with_reducible refine Kd.C_drew ?_))); (case side2 => exact (Kd.S_reads' HO233.out).2.1); (case side3 => repeat (first | exact (Kd.C_below HR234.out HB.out) | (with_reducible refine Kd.C_alloc ?_ _) | (with_reducible refine Kd.C_drewN ?_ _) | (with_reducible refine Kd.C_drew ?_))); (case side4 => exact HC234.out); rintro e w16 ⟨v238, rfl, ho0, hb⟩; have n0_ := Aside0.mk (Kd.S_below (by (with_reducible repeat (first | apply Kd.S_alloc | apply Kd.S_drewN | apply Kd.S_drew)); exact HO233.out) hb); have n1_ := Aside0.mk (Kd.R_lower ho0 (below_size (by repeat (first | (with_reducible first | exact HB.out | apply below_alloc | apply pw_below_drewN | apply below_drew1) | exact HB.out)))); have n2_ := Aside0.mk (below_step (by repeat (first | (with_reducible first | exact HB.out | apply below_alloc | apply pw_below_drewN | apply below_drew1) | exact HB.out)) hb); clear HO233; clear HB; have HO233 := n0_; have HO239 := n1_; have HB := n2_; clear n0_ n1_ n2_; (try clear hb); (try clear hb2); (try clear hk); (try clear hi); (try clear ho0); obtain ⟨Ao17, co17, eo17⟩ := Kd.R_slice HO239.out; subst eo17) | (go_at_call 22; (with_reducible refine (grid_Slots.calls _ _ t235 (t231.length : Int) t236 t240 t241 _ ?side1 ?side2 A10.out).mono ?_); (case side1 => repeat (first | exact (Kd.R_reads' HO239.out).2.2 | (with_reducible refine Kd.C_alloc ?_ _) | (with_reducible refine Kd.C_drewN ?_ _) | (with_reducible refine Kd.C_drew ?_))); (case side2 => exact (Kd.R_reads' HO239.out).2.1); rintro e w18 ⟨v242, rfl, ho0, hb⟩; have n0_ := Aside0.mk (Kd.S_below (by (with_reducible repeat (first | apply Kd.S_alloc | apply Kd.S_drewN | apply Kd.S_drew)); exact HO233.out) hb); have n1_ := Aside0.mk (Kd.R_below (by (with_reducible repeat (first | apply Kd.R_alloc | apply Kd.R_drewN | apply Kd.R_drew)); exact HO239.out) hb); have n2_ := Aside0.mk (Kd.S_lower ho0 (below_size (by repeat (first | (with_reducible first | exact HB.out | apply below_alloc | apply pw_below_drewN | apply below_drew1) | exact HB.out)))); have n3_ := Aside0.mk (below_step (by repeat (first | (with_reducible first | exact HB.out | apply below_alloc | apply pw_below_drewN | apply below_drew1) | exact HB.out)) hb); clear HO233; clear HO239; clear HB; have HO233 := n0_; have HO239 := n1_; have HO243 := n2_; have HB := n3_; clear n0_ n1_ n2_ n3_; (try clear hb); (try clear hb2); (try clear hk); (try clear hi); (try clear ho0)))
        repeat (go_quiet (first | (go_at_call 15; (with_reducible refine (purflinglaw07_shown.calls k  t230 _ A3.out).mono ?_); rintro e w12 ⟨rfl, hb⟩; have n0_ := Aside0.mk (below_step (by repeat (first | (with_reducible first | exact HB.out | apply below_alloc | apply pw_below_drewN | apply below_drew1) | exact HB.out)) hb); clear HB; have HB := n0_; clear n0_; (try clear hb); (try clear hb2); (try clear hk); (try clear hi)) | (go_at_call 16; (with_reducible refine (purflinglaw07_Cut.calls k _ _ l0 t231 _ ?side1 ?side2 A4.out).mono ?_); (case side1 => repeat (first | exact (Kd.C_below HR0.out HB.out) | (with_reducible refine Kd.C_alloc ?_ _) | (with_reducible refine Kd.C_drewN ?_ _) | (with_reducible refine Kd.C_drew ?_))); (case side2 => exact HC0.out); rintro e w13 ⟨v232, rfl, ho0, hb⟩; have n0_ := Aside0.mk (Kd.S_lower ho0 (below_size (by repeat (first | (with_reducible first | exact HB.out | apply below_alloc | apply pw_below_drewN | apply below_drew1) | exact HB.out)))); have n1_ := Aside0.mk (below_step (by repeat (first | (with_reducible first | exact HB.out | apply below_alloc | apply pw_below_drewN | apply below_drew1) | exact HB.out)) hb); clear HB; have HO233 := n0_; have HB := n1_; clear n0_ n1_; (try clear hb); (try clear hb2); (try clear hk); (try clear hi); (try clear ho0); obtain ⟨i014, hi014, _, hsz14, _⟩ := info_parts info3; obtain ⟨hcut14, hA14, hC14⟩ := print_take_of (P := Try.prog) (Value.int .i64) 0 23 3 .i64 Try.underlying23 hi014 hsz14 A1 c1 l1 (ji5) (of_decide_eq_true (by first | (with_reducible assumption) | assumption)) (of_decide_eq_true (by first | (with_reducible assumption) | assumption)) HC1.out; have HR234 := Aside0.mk (Kd.C_of_reads (h1 := fun _ => rfl) (hA14 _ (Kd.reads_of_C HR1.out))); have HC234 := Aside0.mk hC14; clear hA14 hC14 hi014 hsz14; obtain ⟨Ao15, co15, eo15⟩ := Kd.S_slice HO233.out; subst eo15) | (go_at_call 17; (first | (with_reducible refine (calls_len_purflinglaw07_GridFirst (fun n_ : Nat => #[.slice Ao15 t231.length co15, .slice A1 n_ c1]) (show (l1.take ((ji5) : Int).toNat).length = (ji5).toNat from (by rw [List.length_take]; have h_ : ((ji5) : Int) ≤ (l1.length : Int) := of_decide_eq_true (by first | (with_reducible assumption) | assumption); omega)) (grid_Lay.calls _ _ t231 _ _ (l1.take ((ji5) : Int).toNat) t235 t236 t237 _ ?side1 ?side2 ?side3 ?side4 A8.out)).mono ?_) | (with_reducible refine (grid_Lay.calls _ _ t231 _ _ (l1.take ((ji5) : Int).toNat) t235 t236 t237 _ ?side1 ?side2 ?side3 ?side4 A8.out).mono ?_)); (case side1 => repeat (first | exact (Kd.S_reads' HO233.out).2.2 | (with_reducible refine Kd.C_alloc ?_ _) | (with_reducible refine Kd.C_drewN ?_ _) | (with_reducible refine Kd.C_drew ?_))); (case side2 => exact (Kd.S_reads' HO233.out).2.1); (case side3 => repeat (first | exact (Kd.C_below HR234.out HB.out) | (with_reducible refine Kd.C_alloc ?_ _) | (with_reducible refine Kd.C_drewN ?_ _) | (with_reducible refine Kd.C_drew ?_))); (case side4 => exact HC234.out); rintro e w16 ⟨v238, rfl, ho0, hb⟩; have n0_ := Aside0.mk (Kd.S_below (by (with_reducible repeat (first | apply Kd.S_alloc | apply Kd.S_drewN | apply Kd.S_drew)); exact HO233.out) hb); have n1_ := Aside0.mk (Kd.R_lower ho0 (below_size (by repeat (first | (with_reducible first | exact HB.out | apply below_alloc | apply pw_below_drewN | apply below_drew1) | exact HB.out)))); have n2_ := Aside0.mk (below_step (by repeat (first | (with_reducible first | exact HB.out | apply below_alloc | apply pw_below_drewN | apply below_drew1) | exact HB.out)) hb); clear HO233; clear HB; have HO233 := n0_; have HO239 := n1_; have HB := n2_; clear n0_ n1_ n2_; (try clear hb); (try clear hb2); (try clear hk); (try clear hi); (try clear ho0); obtain ⟨Ao17, co17, eo17⟩ := Kd.R_slice HO239.out; subst eo17) | (go_at_call 22; (with_reducible refine (grid_Slots.calls _ _ t235 (t231.length : Int) t236 t240 t241 _ ?side1 ?side2 A10.out).mono ?_); (case side1 => repeat (first | exact (Kd.R_reads' HO239.out).2.2 | (with_reducible refine Kd.C_alloc ?_ _) | (with_reducible refine Kd.C_drewN ?_ _) | (with_reducible refine Kd.C_drew ?_))); (case side2 => exact (Kd.R_reads' HO239.out).2.1); rintro e w18 ⟨v242, rfl, ho0, hb⟩; have n0_ := Aside0.mk (Kd.S_below (by (with_reducible repeat (first | apply Kd.S_alloc | apply Kd.S_drewN | apply Kd.S_drew)); exact HO233.out) hb); have n1_ := Aside0.mk (Kd.R_below (by (with_reducible repeat (first | apply Kd.R_alloc | apply Kd.R_drewN | apply Kd.R_drew)); exact HO239.out) hb); have n2_ := Aside0.mk (Kd.S_lower ho0 (below_size (by repeat (first | (with_reducible first | exact HB.out | apply below_alloc | apply pw_below_drewN | apply below_drew1) | exact HB.out)))); have n3_ := Aside0.mk (below_step (by repeat (first | (with_reducible first | exact HB.out | apply below_alloc | apply pw_below_drewN | apply below_drew1) | exact HB.out)) hb); clear HO233; clear HO239; clear HB; have HO233 := n0_; have HO239 := n1_; have HO243 := n2_; have HB := n3_; clear n0_ n1_ n2_ n3_; (try clear hb); (try clear hb2); (try clear hk); (try clear hi); (try clear ho0))); go_upto_region 8 with (first | (go_at_call 15; (with_reducible refine (purflinglaw07_shown.calls k  t230 _ A3.out).mono ?_); rintro e w12 ⟨rfl, hb⟩; have n0_ := Aside0.mk (below_step (by repeat (first | (with_reducible first | exact HB.out | apply below_alloc | apply pw_below_drewN | apply below_drew1) | exact HB.out)) hb); clear HB; have HB := n0_; clear n0_; (try clear hb); (try clear hb2); (try clear hk); (try clear hi)) | (go_at_call 16; (with_reducible refine (purflinglaw07_Cut.calls k _ _ l0 t231 _ ?side1 ?side2 A4.out).mono ?_); (case side1 => repeat (first | exact (Kd.C_below HR0.out HB.out) | (with_reducible refine Kd.C_alloc ?_ _) | (with_reducible refine Kd.C_drewN ?_ _) | (with_reducible refine Kd.C_drew ?_))); (case side2 => exact HC0.out); rintro e w13 ⟨v232, rfl, ho0, hb⟩; have n0_ := Aside0.mk (Kd.S_lower ho0 (below_size (by repeat (first | (with_reducible first | exact HB.out | apply below_alloc | apply pw_below_drewN | apply below_drew1) | exact HB.out)))); have n1_ := Aside0.mk (below_step (by repeat (first | (with_reducible first | exact HB.out | apply below_alloc | apply pw_below_drewN | apply below_drew1) | exact HB.out)) hb); clear HB; have HO233 := n0_; have HB := n1_; clear n0_ n1_; (try clear hb); (try clear hb2); (try clear hk); (try clear hi); (try clear ho0); obtain ⟨i014, hi014, _, hsz14, _⟩ := info_parts info3; obtain ⟨hcut14, hA14, hC14⟩ := print_take_of (P := Try.prog) (Value.int .i64) 0 23 3 .i64 Try.underlying23 hi014 hsz14 A1 c1 l1 (ji5) (of_decide_eq_true (by first | (with_reducible assumption) | assumption)) (of_decide_eq_true (by first | (with_reducible assumption) | assumption)) HC1.out; have HR234 := Aside0.mk (Kd.C_of_reads (h1 := fun _ => rfl) (hA14 _ (Kd.reads_of_C HR1.out))); have HC234 := Aside0.mk hC14; clear hA14 hC14 hi014 hsz14; obtain ⟨Ao15, co15, eo15⟩ := Kd.S_slice HO233.out; subst eo15) | (go_at_call 17; (first | (with_reducible refine (calls_len_purflinglaw07_GridFirst (fun n_ : Nat => #[.slice Ao15 t231.length co15, .slice A1 n_ c1]) (show (l1.take ((ji5) : Int).toNat).length = (ji5).toNat from (by rw [List.length_take]; have h_ : ((ji5) : Int) ≤ (l1.length : Int) := of_decide_eq_true (by first | (with_reducible assumption) | assumption); omega)) (grid_Lay.calls _ _ t231 _ _ (l1.take ((ji5) : Int).toNat) t235 t236 t237 _ ?side1 ?side2 ?side3 ?side4 A8.out)).mono ?_) | (with_reducible refine (grid_Lay.calls _ _ t231 _ _ (l1.take ((ji5) : Int).toNat) t235 t236 t237 _ ?side1 ?side2 ?side3 ?side4 A8.out).mono ?_)); (case side1 => repeat (first | exact (Kd.S_reads' HO233.out).2.2 | (with_reducible refine Kd.C_alloc ?_ _) | (with_reducible refine Kd.C_drewN ?_ _) | (with_reducible refine Kd.C_drew ?_))); (case side2 => exact (Kd.S_reads' HO233.out).2.1); (case side3 => repeat (first | exact (Kd.C_below HR234.out HB.out) | (with_reducible refine Kd.C_alloc ?_ _) | (with_reducible refine Kd.C_drewN ?_ _) | (with_reducible refine Kd.C_drew ?_))); (case side4 => exact HC234.out); rintro e w16 ⟨v238, rfl, ho0, hb⟩; have n0_ := Aside0.mk (Kd.S_below (by (with_reducible repeat (first | apply Kd.S_alloc | apply Kd.S_drewN | apply Kd.S_drew)); exact HO233.out) hb); have n1_ := Aside0.mk (Kd.R_lower ho0 (below_size (by repeat (first | (with_reducible first | exact HB.out | apply below_alloc | apply pw_below_drewN | apply below_drew1) | exact HB.out)))); have n2_ := Aside0.mk (below_step (by repeat (first | (with_reducible first | exact HB.out | apply below_alloc | apply pw_below_drewN | apply below_drew1) | exact HB.out)) hb); clear HO233; clear HB; have HO233 := n0_; have HO239 := n1_; have HB := n2_; clear n0_ n1_ n2_; (try clear hb); (try clear hb2); (try clear hk); (try clear hi); (try clear ho0); obtain ⟨Ao17, co17, eo17⟩ := Kd.R_slice HO239.out; subst eo17) | (go_at_call 22; (with_reducible refine (grid_Slots.calls _ _ t235 (t231.length : Int) t236 t240 t241 _ ?side1 ?side2 A10.out).mono ?_); (case side1 => repeat (first | exact (Kd.R_reads' HO239.out).2.2 | (with_reducible refine Kd.C_alloc ?_ _) | (with_reducible refine Kd.C_drewN ?_ _) | (with_reducible refine Kd.C_drew ?_))); (case side2 => exact (Kd.R_reads' HO239.out).2.1); rintro e w18 ⟨v242, rfl, ho0, hb⟩; have n0_ := Aside0.mk (Kd.S_below (by (with_reducible repeat (first | apply Kd.S_alloc | apply Kd.S_drewN | apply Kd.S_drew)); exact HO233.out) hb); have n1_ := Aside0.mk (Kd.R_below (by (with_reducible repeat (first | apply Kd.R_alloc | apply Kd.R_drewN | apply Kd.R_drew)); exact HO239.out) hb); have n2_ := Aside0.mk (Kd.S_lower ho0 (below_size (by repeat (first | (with_reducible first | exact HB.out | apply below_alloc | apply pw_below_drewN | apply below_drew1) | exact HB.out)))); have n3_ := Aside0.mk (below_step (by repeat (first | (with_reducible first | exact HB.out | apply below_alloc | apply pw_below_drewN | apply below_drew1) | exact HB.out)) hb); clear HO233; clear HO239; clear HB; have HO233 := n0_; have HO239 := n1_; have HO243 := n2_; have HB := n3_; clear n0_ n1_ n2_ n3_; (try clear hb); (try clear hb2); (try clear hk); (try clear hi); (try clear ho0))))
        (try simp only [Act.put, List.setIfInBounds_toArray, List.set_cons_zero, List.set_cons_succ])
        go_cut [48] (fun v48 wc => ∃ (kq : Nat) (x48_10 : Bool), v48 = .bool x48_10 ∧ Aside0 (purflinglaw07_GridFirst.j0 kq t230 t235 t240 x48_10 = some r) ∧ Aside0 (kq ≤ k) ∧ Aside0 (Kd.R k40 40 wc w.heap.size (fun _ => True) (.slice Ao17 t235.length co17) t235) ∧ Aside0 (Kd.S (Kd.slice 3 (Kd.int .i64)) 23 wc w.heap.size (fun _ => True) v242 t240) ∧ Aside0 (Below w.heap.size w wc))
        case first =>
          have H := HC11.out
          clear HC11
          by_cases c19 : t241 = 0
          · rw [if_pos c19] at H
            have c19b0 : (t241 == 0) = true := beq_iff_eq.mpr c19
            have c19b1 : (t241 != 0) = false := bne_eq_false_iff_eq.mpr c19
            clear c19
            (first | rw [c19b0] | (simp only [i64_w, i32_w]; rw [c19b0]) | skip)
            have H' := Aside0.mk H
            clear H
            obtain ⟨Ao20, co20, eo20⟩ := Kd.S_slice HO243.out
            subst eo20
            go_wp2
            repeat (go_quiet (fail); try go_wp2)
            go_meet
            case rel => exact ⟨_, (((t240.length : Int) != (t231.length : Int))), (by first | rfl | (simp; done) | (simp [*]; done)), H', ⟨by first | omega | exact Nat.le_refl _⟩, ⟨by (with_reducible repeat (first | apply Kd.R_alloc | apply Kd.R_drewN | apply Kd.R_drew)); exact HO239.out⟩, ⟨by (with_reducible repeat (first | apply Kd.S_alloc | apply Kd.S_drewN | apply Kd.S_drew)); exact HO243.out⟩, ⟨by repeat (first | (with_reducible first | exact HB.out | apply below_alloc | apply pw_below_drewN | apply below_drew1) | exact HB.out)⟩⟩
          · rw [if_neg c19] at H
            have c19b0 : (t241 == 0) = false := beq_eq_false_iff_ne.mpr c19
            have c19b1 : (t241 != 0) = true := bne_iff_ne.mpr c19
            (first | rw [c19b0] | (simp only [i64_w, i32_w]; rw [c19b0]) | skip)
            have H' := Aside0.mk H
            clear H
            go_wp2
            repeat (go_quiet (fail); try go_wp2)
            go_meet
            case rel => exact ⟨_, (true), (by first | rfl | (simp; done) | (simp [*]; done)), H', ⟨by first | omega | exact Nat.le_refl _⟩, ⟨by (with_reducible repeat (first | apply Kd.R_alloc | apply Kd.R_drewN | apply Kd.R_drew)); exact HO239.out⟩, ⟨by (with_reducible repeat (first | apply Kd.S_alloc | apply Kd.S_drewN | apply Kd.S_drew)); exact HO243.out⟩, ⟨by repeat (first | (with_reducible first | exact HB.out | apply below_alloc | apply pw_below_drewN | apply below_drew1) | exact HB.out)⟩⟩
        case rest =>
          clear HC11
          try clear c1
          try clear p2
          try clear c6
          try clear c6b0
          try clear c6b1
          try clear c7
          try clear c7b0
          try clear c7b1
          try clear c9
          try clear c9b0
          try clear c9b1
          try clear c19
          try clear c19b0
          try clear c19b1
          obtain ⟨kq, x48_10, rfl, HA, HJ10, HO_6, HO_9, HB⟩ := hcut
          cases kq with
          | zero => exact absurd HA.out (by simp [purflinglaw07_GridFirst.j0])
          | succ kj10 =>
            have H := HA.out
            clear HA
            simp only [purflinglaw07_GridFirst.j0] at H
            by_cases c21 : x48_10 = true
            · subst c21
              have H1 : (some false) = some r := by rw [if_pos rfl] at H; exact H
              clear H
              have H := H1
              clear H1
              obtain rfl := Option.some.inj H
              go_wp2
              repeat (go_quiet (fail); try go_wp2)
              go_ret
              exact ⟨by first | rfl | (simp [errW_none, errW_some] <;> rfl) | (simp only [← hji5]; first | rfl | (simp [errW_none, errW_some] <;> rfl)) | (simp [*, errW_none, errW_some] <;> rfl), by repeat (first | (with_reducible first | exact HB.out | apply below_alloc | apply pw_below_drewN | apply below_drew1) | exact HB.out)⟩
            · replace c21 := Bool.eq_false_iff.mpr c21
              subst c21
              have H1 : (purflinglaw07_GridFirst.l0 kj10 t230 t235 t240 0) = some r := by rw [if_neg (show ¬ (false = true) by decide)] at H; exact H
              clear H
              have H := H1
              clear H1
              have H' := Aside0.mk H
              clear H
              go_wp2
              repeat (go_quiet (fail); try go_wp2)
              go_loopg [11] kj10 (fun kq v11 w' => ∃ (x11_2 : Int), v11 = .int .i64 x11_2 ∧ Aside0 (purflinglaw07_GridFirst.l0 kq t230 t235 t240 x11_2 = some r) ∧ Aside0 (kq ≤ kj10) ∧ Aside0 (Kd.R k40 40 w' w.heap.size (fun _ => True) (.slice Ao17 t235.length co17) t235) ∧ Aside0 (Kd.S (Kd.slice 3 (Kd.int .i64)) 23 w' w.heap.size (fun _ => True) v242 t240) ∧ Aside0 (Below w.heap.size w w'))
              case atStart => exact ⟨(0), (by first | rfl | (simp; done) | (simp [*]; done)), H', ⟨Nat.le_refl _⟩, ⟨by (with_reducible repeat (first | apply Kd.R_alloc | apply Kd.R_drewN | apply Kd.R_drew)); exact HO_6.out⟩, ⟨by (with_reducible repeat (first | apply Kd.S_alloc | apply Kd.S_drewN | apply Kd.S_drew)); exact HO_9.out⟩, ⟨by repeat (first | (with_reducible first | exact HB.out | apply below_alloc | apply pw_below_drewN | apply below_drew1) | exact HB.out)⟩⟩
              case round =>
                clear H'
                try clear c1
                try clear c2
                try clear p2
                try clear c6
                try clear c6b0
                try clear c6b1
                try clear c7
                try clear c7b0
                try clear c7b1
                try clear c9
                try clear c9b0
                try clear c9b1
                try clear c19
                try clear c19b0
                try clear c19b1
                try clear c21
                try clear p2
                obtain ⟨x11_2, rfl, HA, HK2, HO_6, HO_9, HB⟩ := hrel
                cases gk with
                | zero => exact absurd HA.out (by simp [purflinglaw07_GridFirst.l0])
                | succ k2 =>
                  have H := HA.out
                  clear HA
                  simp only [purflinglaw07_GridFirst.l0] at H
                  by_cases c22 : x11_2 < (t235.length : Int)
                  · rw [if_pos c22] at H
                    have c22b0 : decide (x11_2 < (t235.length : Int)) = true := decide_eq_true c22
                    clear c22
                    have HC23 := Aside0.mk H
                    clear H
                    go_upto_region 14 with (fail)
                    repeat (go_quiet (fail); go_upto_region 14 with (fail))
                    go_cut [70] (fun v70 wc => ∃ (kq : Nat) (x70_22 : Bool), v70 = .bool x70_22 ∧ Aside0 (purflinglaw07_GridFirst.j2 kq t230 t235 t240 x11_2 0 x70_22 = some r) ∧ Aside0 (kq ≤ k2) ∧ Aside0 (Kd.R k40 40 wc w.heap.size (fun _ => True) (.slice Ao17 t235.length co17) t235) ∧ Aside0 (Kd.S (Kd.slice 3 (Kd.int .i64)) 23 wc w.heap.size (fun _ => True) v242 t240) ∧ Aside0 (Below w.heap.size w wc))
                    case first =>
                      have H := HC23.out
                      clear HC23
                      by_cases c24 : x11_2 > 0
                      · rw [if_pos c24] at H
                        have c24b0 : decide (0 < x11_2) = true := decide_eq_true c24
                        clear c24
                        (first | rw [c24b0] | (simp only [i64_w, i32_w]; rw [c24b0]) | skip)
                        obtain ⟨ji25, hji25⟩ : ∃ j_ : Int, (wrap64 (x11_2 - 1)) = j_ := ⟨_, rfl⟩
                        replace H : (if 0 ≤ (ji25) then (if (ji25) < (t235.length : Int) then (if 0 ≤ x11_2 then (purflinglaw07_GridFirst.j2 k2 t230 t235 t240 x11_2 0 (((rd_T40 t235 (ji25)).f1) == ((rd_T40 t235 x11_2).f1))) else (none)) else (none)) else (none)) = some r := by first | (rw [hji25] at H; exact H) | (simp only [hji25] at H ⊢; exact H)
                        have hji25w : (IntKind.i64.wrap (x11_2 - 1)) = ji25 := (i64_w _).trans hji25
                        by_cases c26 : 0 ≤ (ji25)
                        · rw [if_pos c26] at H
                          have c26b0 : decide (0 ≤ (ji25)) = true := decide_eq_true c26
                          clear c26
                          by_cases c27 : (ji25) < (t235.length : Int)
                          · rw [if_pos c27] at H
                            have c27b0 : decide ((ji25) < (t235.length : Int)) = true := decide_eq_true c27
                            clear c27
                            by_cases c28 : 0 ≤ x11_2
                            · rw [if_pos c28] at H
                              have c28b0 : decide (0 ≤ x11_2) = true := decide_eq_true c28
                              clear c28
                              have H' := Aside0.mk H
                              clear H
                              have p244 : 0 ≤ ((ji25) : Int) := of_decide_eq_true (by first | (with_reducible assumption) | assumption)
                              have q244 : (ji25) < (t235.length : Int) := of_decide_eq_true (by first | (with_reducible assumption) | assumption)
                              obtain ⟨ad244, e244, hx244_0, hx244_1, hx244_2, hx244_3, hx244_4⟩ := at_T40 (Kd.R_reads' HO_6.out).2.2 (ji25) p244 q244
                              cases e244
                              replace p244 := eq_true p244
                              replace q244 := eq_true q244
                              have p245 : 0 ≤ (x11_2 : Int) := of_decide_eq_true (by first | (with_reducible assumption) | assumption)
                              have q245 : x11_2 < (t235.length : Int) := of_decide_eq_true (by first | (with_reducible assumption) | assumption)
                              obtain ⟨ad245, e245, hx245_0, hx245_1, hx245_2, hx245_3, hx245_4⟩ := at_T40 (Kd.R_reads' HO_6.out).2.2 x11_2 p245 q245
                              obtain rfl : ad244 = ad245 := (by injection e245)
                              replace p245 := eq_true p245
                              replace q245 := eq_true q245
                              go_wp2
                              repeat (go_quiet (fail); try go_wp2)
                              go_meet
                              case rel => exact ⟨_, ((((rd_T40 t235 (ji25)).f1) == ((rd_T40 t235 x11_2).f1))), (by first | rfl | (simp; done) | (simp only [← hji25] <;> (first | rfl | simp)) | (simp [*]; done)), H', ⟨by have := HJ10.out; have := HK2.out; first | omega | exact Nat.le_refl _⟩, ⟨by (with_reducible repeat (first | apply Kd.R_alloc | apply Kd.R_drewN | apply Kd.R_drew)); exact HO_6.out⟩, ⟨by (with_reducible repeat (first | apply Kd.S_alloc | apply Kd.S_drewN | apply Kd.S_drew)); exact HO_9.out⟩, ⟨by repeat (first | (with_reducible first | exact HB.out | apply below_alloc | apply pw_below_drewN | apply below_drew1) | exact HB.out)⟩⟩
                            · rw [if_neg c28] at H
                              exact absurd H (by simp)
                          · rw [if_neg c27] at H
                            exact absurd H (by simp)
                        · rw [if_neg c26] at H
                          exact absurd H (by simp)
                      · rw [if_neg c24] at H
                        have c24b0 : decide (0 < x11_2) = false := decide_eq_false c24
                        clear c24
                        (first | rw [c24b0] | (simp only [i64_w, i32_w]; rw [c24b0]) | skip)
                        have H' := Aside0.mk H
                        clear H
                        go_wp2
                        repeat (go_quiet (fail); try go_wp2)
                        go_meet
                        case rel => exact ⟨_, (false), (by first | rfl | (simp; done) | (simp [*]; done)), H', ⟨by have := HJ10.out; have := HK2.out; first | omega | exact Nat.le_refl _⟩, ⟨by (with_reducible repeat (first | apply Kd.R_alloc | apply Kd.R_drewN | apply Kd.R_drew)); exact HO_6.out⟩, ⟨by (with_reducible repeat (first | apply Kd.S_alloc | apply Kd.S_drewN | apply Kd.S_drew)); exact HO_9.out⟩, ⟨by repeat (first | (with_reducible first | exact HB.out | apply below_alloc | apply pw_below_drewN | apply below_drew1) | exact HB.out)⟩⟩
                    case rest =>
                      clear HC23
                      try clear c1
                      try clear c2
                      try clear p2
                      try clear q2
                      try clear hx2
                      try clear c6
                      try clear c6b0
                      try clear c6b1
                      try clear p6
                      try clear c7
                      try clear c7b0
                      try clear c7b1
                      try clear c9
                      try clear c9b0
                      try clear c9b1
                      try clear c19
                      try clear c19b0
                      try clear c19b1
                      try clear c21
                      try clear c22
                      try clear c22b0
                      try clear c24
                      try clear c24b0
                      try clear p24
                      try clear q24
                      try clear hx24
                      try clear c26
                      try clear c26b0
                      try clear c27
                      try clear c27b0
                      try clear c28
                      try clear c28b0
                      try clear hx244_0
                      try clear hx244_1
                      try clear hx244_2
                      try clear hx244_3
                      try clear hx244_4
                      try clear hx245_0
                      try clear hx245_1
                      try clear hx245_2
                      try clear hx245_3
                      try clear hx245_4
                      try clear p2
                      try clear p244
                      try clear p245
                      try clear q244
                      try clear q245
                      obtain ⟨kq, x70_22, rfl, HA, HJ22, HO_6, HO_9, HB⟩ := hcut
                      cases kq with
                      | zero => exact absurd HA.out (by simp [purflinglaw07_GridFirst.j2])
                      | succ kj22 =>
                        have H := HA.out
                        clear HA
                        simp only [purflinglaw07_GridFirst.j2] at H
                        have HC29 := Aside0.mk H
                        clear H
                        go_upto_if 70 with (fail)
                        repeat (go_quiet (fail); go_upto_if 70 with (fail))
                        go_cut [12] (fun v12 wc => ∃ (kq : Nat) (x12_28 : Int), v12 = .int .i64 x12_28 ∧ Aside0 (purflinglaw07_GridFirst.j3 kq t230 t235 t240 x11_2 x12_28 = some r) ∧ Aside0 (kq ≤ kj22) ∧ Aside0 (Kd.R k40 40 wc w.heap.size (fun _ => True) (.slice Ao17 t235.length co17) t235) ∧ Aside0 (Kd.S (Kd.slice 3 (Kd.int .i64)) 23 wc w.heap.size (fun _ => True) v242 t240) ∧ Aside0 (Below w.heap.size w wc))
                        case first =>
                          have H := HC29.out
                          clear HC29
                          by_cases c30 : x70_22 = true
                          · subst c30
                            have H1 : (if 0 ≤ (wrap64 (x11_2 - 1)) then (if (wrap64 (x11_2 - 1)) < (t235.length : Int) then (purflinglaw07_GridFirst.j3 kj22 t230 t235 t240 x11_2 (wrap64 (((rd_T40 t235 (wrap64 (x11_2 - 1))).f2) + ((rd_T40 t235 (wrap64 (x11_2 - 1))).f4)))) else (none)) else (none)) = some r := by rw [if_pos rfl] at H; exact H
                            clear H
                            have H := H1
                            clear H1
                            obtain ⟨ji31, hji31⟩ : ∃ j_ : Int, (wrap64 (x11_2 - 1)) = j_ := ⟨_, rfl⟩
                            replace H : (if 0 ≤ (ji31) then (if (ji31) < (t235.length : Int) then (purflinglaw07_GridFirst.j3 kj22 t230 t235 t240 x11_2 (wrap64 (((rd_T40 t235 (ji31)).f2) + ((rd_T40 t235 (ji31)).f4)))) else (none)) else (none)) = some r := by first | (rw [hji31] at H; exact H) | (simp only [hji31] at H ⊢; exact H)
                            have hji31w : (IntKind.i64.wrap (x11_2 - 1)) = ji31 := (i64_w _).trans hji31
                            by_cases c32 : 0 ≤ (ji31)
                            · rw [if_pos c32] at H
                              have c32b0 : decide (0 ≤ (ji31)) = true := decide_eq_true c32
                              clear c32
                              (first | rw [c32b0] | (simp only [i64_w, i32_w]; rw [c32b0]) | skip)
                              by_cases c33 : (ji31) < (t235.length : Int)
                              · rw [if_pos c33] at H
                                have c33b0 : decide ((ji31) < (t235.length : Int)) = true := decide_eq_true c33
                                clear c33
                                have H' := Aside0.mk H
                                clear H
                                have p246 : 0 ≤ ((ji31) : Int) := of_decide_eq_true (by first | (with_reducible assumption) | assumption)
                                have q246 : (ji31) < (t235.length : Int) := of_decide_eq_true (by first | (with_reducible assumption) | assumption)
                                obtain ⟨ad246, e246, hx246_0, hx246_1, hx246_2, hx246_3, hx246_4⟩ := at_T40 (Kd.R_reads' HO_6.out).2.2 (ji31) p246 q246
                                cases e246
                                replace p246 := eq_true p246
                                replace q246 := eq_true q246
                                have p247 : 0 ≤ ((ji31) : Int) := of_decide_eq_true (by first | (with_reducible assumption) | assumption)
                                have q247 : (ji31) < (t235.length : Int) := of_decide_eq_true (by first | (with_reducible assumption) | assumption)
                                obtain ⟨ad247, e247, hx247_0, hx247_1, hx247_2, hx247_3, hx247_4⟩ := at_T40 (Kd.R_reads' HO_6.out).2.2 (ji31) p247 q247
                                obtain rfl : ad246 = ad247 := (by injection e247)
                                replace p247 := eq_true p247
                                replace q247 := eq_true q247
                                go_wp2
                                repeat (go_quiet (fail); try go_wp2)
                                go_meet
                                case rel => exact ⟨_, (wrap64 (((rd_T40 t235 (ji31)).f2) + ((rd_T40 t235 (ji31)).f4))), (by first | rfl | (simp; done) | (simp only [← hji31] <;> (first | rfl | simp)) | (simp [*]; done)), H', ⟨by have := HJ10.out; have := HK2.out; have := HJ22.out; first | omega | exact Nat.le_refl _⟩, ⟨by (with_reducible repeat (first | apply Kd.R_alloc | apply Kd.R_drewN | apply Kd.R_drew)); exact HO_6.out⟩, ⟨by (with_reducible repeat (first | apply Kd.S_alloc | apply Kd.S_drewN | apply Kd.S_drew)); exact HO_9.out⟩, ⟨by repeat (first | (with_reducible first | exact HB.out | apply below_alloc | apply pw_below_drewN | apply below_drew1) | exact HB.out)⟩⟩
                              · rw [if_neg c33] at H
                                exact absurd H (by simp)
                            · rw [if_neg c32] at H
                              exact absurd H (by simp)
                          · replace c30 := Bool.eq_false_iff.mpr c30
                            subst c30
                            have H1 : (purflinglaw07_GridFirst.j3 kj22 t230 t235 t240 x11_2 0) = some r := by rw [if_neg (show ¬ (false = true) by decide)] at H; exact H
                            clear H
                            have H := H1
                            clear H1
                            have H' := Aside0.mk H
                            clear H
                            go_wp2
                            repeat (go_quiet (fail); try go_wp2)
                            go_meet
                            case rel => exact ⟨_, (0), (by first | rfl | (simp; done) | (simp [*]; done)), H', ⟨by have := HJ10.out; have := HK2.out; have := HJ22.out; first | omega | exact Nat.le_refl _⟩, ⟨by (with_reducible repeat (first | apply Kd.R_alloc | apply Kd.R_drewN | apply Kd.R_drew)); exact HO_6.out⟩, ⟨by (with_reducible repeat (first | apply Kd.S_alloc | apply Kd.S_drewN | apply Kd.S_drew)); exact HO_9.out⟩, ⟨by repeat (first | (with_reducible first | exact HB.out | apply below_alloc | apply pw_below_drewN | apply below_drew1) | exact HB.out)⟩⟩
                        case rest =>
                          clear HC29
                          try clear c1
                          try clear c2
                          try clear p2
                          try clear q2
                          try clear hx2
                          try clear c3
                          try clear c6
                          try clear c6b0
                          try clear c6b1
                          try clear p6
                          try clear c7
                          try clear c7b0
                          try clear c7b1
                          try clear c9
                          try clear c9b0
                          try clear c9b1
                          try clear c19
                          try clear c19b0
                          try clear c19b1
                          try clear c21
                          try clear c22
                          try clear c22b0
                          try clear c24
                          try clear c24b0
                          try clear p24
                          try clear q24
                          try clear hx24
                          try clear c26
                          try clear c26b0
                          try clear c27
                          try clear c27b0
                          try clear c28
                          try clear c28b0
                          try clear c30
                          try clear c32
                          try clear c32b0
                          try clear c33
                          try clear c33b0
                          try clear hx244_0
                          try clear hx244_1
                          try clear hx244_2
                          try clear hx244_3
                          try clear hx244_4
                          try clear hx245_0
                          try clear hx245_1
                          try clear hx245_2
                          try clear hx245_3
                          try clear hx245_4
                          try clear hx246_0
                          try clear hx246_1
                          try clear hx246_2
                          try clear hx246_3
                          try clear hx246_4
                          try clear hx247_0
                          try clear hx247_1
                          try clear hx247_2
                          try clear hx247_3
                          try clear hx247_4
                          try clear p2
                          try clear p24
                          try clear p244
                          try clear p245
                          try clear p246
                          try clear p247
                          try clear p6
                          try clear q2
                          try clear q24
                          try clear q244
                          try clear q245
                          try clear q246
                          try clear q247
                          obtain ⟨kq, x12_28, rfl, HA, HJ28, HO_6, HO_9, HB⟩ := hcut
                          cases kq with
                          | zero => exact absurd HA.out (by simp [purflinglaw07_GridFirst.j3])
                          | succ kj28 =>
                            have H := HA.out
                            clear HA
                            simp only [purflinglaw07_GridFirst.j3] at H
                            have H' := Aside0.mk H
                            clear H
                            go_wp2
                            repeat (go_quiet (fail); try go_wp2)
                            go_loopg [13] kj28 (fun kq v13 w' => ∃ (x13_5 : Int), v13 = .int .i64 x13_5 ∧ Aside0 (purflinglaw07_GridFirst.l1 kq t230 t235 t240 x11_2 x13_5 = some r) ∧ Aside0 (kq ≤ kj28) ∧ Aside0 (Kd.R k40 40 w' w.heap.size (fun _ => True) (.slice Ao17 t235.length co17) t235) ∧ Aside0 (Kd.S (Kd.slice 3 (Kd.int .i64)) 23 w' w.heap.size (fun _ => True) v242 t240) ∧ Aside0 (Below w.heap.size w w'))
                            case atStart => exact ⟨(x12_28), (by first | rfl | (simp; done) | (simp [*]; done)), H', ⟨Nat.le_refl _⟩, ⟨by (with_reducible repeat (first | apply Kd.R_alloc | apply Kd.R_drewN | apply Kd.R_drew)); exact HO_6.out⟩, ⟨by (with_reducible repeat (first | apply Kd.S_alloc | apply Kd.S_drewN | apply Kd.S_drew)); exact HO_9.out⟩, ⟨by repeat (first | (with_reducible first | exact HB.out | apply below_alloc | apply pw_below_drewN | apply below_drew1) | exact HB.out)⟩⟩
                            case round =>
                              clear H'
                              try clear c1
                              try clear c2
                              try clear p2
                              try clear q2
                              try clear hx2
                              try clear c3
                              try clear c6
                              try clear c6b0
                              try clear c6b1
                              try clear p6
                              try clear c7
                              try clear c7b0
                              try clear c7b1
                              try clear c9
                              try clear c9b0
                              try clear c9b1
                              try clear c19
                              try clear c19b0
                              try clear c19b1
                              try clear c21
                              try clear c22
                              try clear c22b0
                              try clear c24
                              try clear c24b0
                              try clear p24
                              try clear q24
                              try clear hx24
                              try clear c26
                              try clear c26b0
                              try clear c27
                              try clear c27b0
                              try clear c28
                              try clear c28b0
                              try clear c30
                              try clear c32
                              try clear c32b0
                              try clear c33
                              try clear c33b0
                              try clear hx244_0
                              try clear hx244_1
                              try clear hx244_2
                              try clear hx244_3
                              try clear hx244_4
                              try clear hx245_0
                              try clear hx245_1
                              try clear hx245_2
                              try clear hx245_3
                              try clear hx245_4
                              try clear hx246_0
                              try clear hx246_1
                              try clear hx246_2
                              try clear hx246_3
                              try clear hx246_4
                              try clear hx247_0
                              try clear hx247_1
                              try clear hx247_2
                              try clear hx247_3
                              try clear hx247_4
                              try clear p2
                              try clear p24
                              try clear p244
                              try clear p245
                              try clear p246
                              try clear p247
                              try clear p6
                              try clear q2
                              try clear q24
                              try clear q244
                              try clear q245
                              try clear q246
                              try clear q247
                              obtain ⟨x13_5, rfl, HA, HK5, HO_6, HO_9, HB⟩ := hrel
                              cases gk with
                              | zero => exact absurd HA.out (by simp [purflinglaw07_GridFirst.l1])
                              | succ k5 =>
                                have H := HA.out
                                clear HA
                                simp only [purflinglaw07_GridFirst.l1] at H
                                by_cases c34 : 0 ≤ x11_2
                                · rw [if_pos c34] at H
                                  have c34b0 : decide (0 ≤ x11_2) = true := decide_eq_true c34
                                  clear c34
                                  by_cases c35 : x11_2 < (t235.length : Int)
                                  · rw [if_pos c35] at H
                                    have c35b0 : decide (x11_2 < (t235.length : Int)) = true := decide_eq_true c35
                                    clear c35
                                    by_cases c36 : x13_5 < ((rd_T40 t235 x11_2).f2)
                                    · rw [if_pos c36] at H
                                      have c36b0 : decide (x13_5 < ((rd_T40 t235 x11_2).f2)) = true := decide_eq_true c36
                                      clear c36
                                      by_cases c37 : 0 ≤ ((rd_T40 t235 x11_2).f1)
                                      · rw [if_pos c37] at H
                                        have c37b0 : decide (0 ≤ ((rd_T40 t235 x11_2).f1)) = true := decide_eq_true c37
                                        clear c37
                                        by_cases c38 : ((rd_T40 t235 x11_2).f1) < (t240.length : Int)
                                        · rw [if_pos c38] at H
                                          have c38b0 : decide (((rd_T40 t235 x11_2).f1) < (t240.length : Int)) = true := decide_eq_true c38
                                          clear c38
                                          by_cases c39 : ((rd_L4 t240 ((rd_T40 t235 x11_2).f1)).length : Int) ≤ x13_5
                                          · rw [if_pos c39] at H
                                            have c39b0 : decide (((rd_L4 t240 ((rd_T40 t235 x11_2).f1)).length : Int) ≤ x13_5) = true := decide_eq_true c39
                                            clear c39
                                            obtain rfl := Option.some.inj H
                                            have p248 : 0 ≤ (x11_2 : Int) := of_decide_eq_true (by first | (with_reducible assumption) | assumption)
                                            have q248 : x11_2 < (t235.length : Int) := of_decide_eq_true (by first | (with_reducible assumption) | assumption)
                                            obtain ⟨ad248, e248, hx248_0, hx248_1, hx248_2, hx248_3, hx248_4⟩ := at_T40 (Kd.R_reads' HO_6.out).2.2 x11_2 p248 q248
                                            cases e248
                                            replace p248 := eq_true p248
                                            replace q248 := eq_true q248
                                            have p249 : 0 ≤ (x11_2 : Int) := of_decide_eq_true (by first | (with_reducible assumption) | assumption)
                                            have q249 : x11_2 < (t235.length : Int) := of_decide_eq_true (by first | (with_reducible assumption) | assumption)
                                            obtain ⟨ad249, e249, hx249_0, hx249_1, hx249_2, hx249_3, hx249_4⟩ := at_T40 (Kd.R_reads' HO_6.out).2.2 x11_2 p249 q249
                                            obtain rfl : ad248 = ad249 := (by injection e249)
                                            replace p249 := eq_true p249
                                            replace q249 := eq_true q249
                                            obtain ⟨Ao40, co40, eo40⟩ := Kd.S_slice HO_9.out
                                            subst eo40
                                            have p250 : 0 ≤ (((rd_T40 t235 x11_2).f1) : Int) := of_decide_eq_true (by first | (with_reducible assumption) | assumption)
                                            have q250 : ((rd_T40 t235 x11_2).f1) < (t240.length : Int) := of_decide_eq_true (by first | (with_reducible assumption) | assumption)
                                            obtain ⟨ad250, A250_0, c250_0, e250, hx250_0, hl250_0, hi250_0⟩ := at_L4 (Kd.S_reads' HO_9.out).2.2 ((rd_T40 t235 x11_2).f1) p250 q250
                                            cases e250
                                            obtain ⟨ce250, hce250, hMe250, hcc250⟩ := Kd.S_get HO_9.out [] ((rd_T40 t235 x11_2).f1) p250 (by first | exact q250 | exact of_decide_eq_true (by first | (with_reducible assumption) | assumption) | (have e_ := (Kd.S_reads' HO_9.out).1; omega))
                                            obtain ⟨ve250_0, rfl, ge250_0⟩ := hMe250
                                            have hv250_0 := hcc250 0 _ rfl
                                            rw [Nat.add_zero, show ((Kd.slice 3 (Kd.int .i64))).sz = 1 from rfl, Nat.mul_one] at hv250_0
                                            replace hv250_0 := Option.some.inj (hv250_0.symm.trans hx250_0)
                                            rw [hv250_0] at ge250_0
                                            have HL250_0 := Aside0.mk (show Kd.R (Kd.int .i64) 3 _ _ _ _ (rd_L4 t240 ((rd_T40 t235 x11_2).f1)) from ge250_0)
                                            clear hv250_0 ge250_0
                                            clear hcc250 hce250
                                            have HR250_0 := Aside0.mk hi250_0
                                            have HC250_0 := Aside0.mk hl250_0
                                            clear hi250_0 hl250_0
                                            replace p250 := eq_true p250
                                            replace q250 := eq_true q250
                                            go_wp2
                                            repeat (go_quiet (fail); try go_wp2)
                                            go_ret
                                            exact ⟨by first | rfl | (simp [errW_none, errW_some] <;> rfl) | (simp only [← hji5]; first | rfl | (simp [errW_none, errW_some] <;> rfl)) | (simp [*, errW_none, errW_some] <;> rfl), by repeat (first | (with_reducible first | exact HB.out | apply below_alloc | apply pw_below_drewN | apply below_drew1) | exact HB.out)⟩
                                          · rw [if_neg c39] at H
                                            have c39b0 : decide (((rd_L4 t240 ((rd_T40 t235 x11_2).f1)).length : Int) ≤ x13_5) = false := decide_eq_false c39
                                            clear c39
                                            by_cases c41 : 0 ≤ x13_5
                                            · rw [if_pos c41] at H
                                              have c41b0 : decide (0 ≤ x13_5) = true := decide_eq_true c41
                                              clear c41
                                              by_cases c42 : x13_5 < ((rd_L4 t240 ((rd_T40 t235 x11_2).f1)).length : Int)
                                              · rw [if_pos c42] at H
                                                have c42b0 : decide (x13_5 < ((rd_L4 t240 ((rd_T40 t235 x11_2).f1)).length : Int)) = true := decide_eq_true c42
                                                clear c42
                                                by_cases c43 : (rd (rd_L4 t240 ((rd_T40 t235 x11_2).f1)) x13_5) < 0
                                                · rw [if_pos c43] at H
                                                  have c43b0 : decide ((rd (rd_L4 t240 ((rd_T40 t235 x11_2).f1)) x13_5) < 0) = true := decide_eq_true c43
                                                  clear c43
                                                  obtain rfl := Option.some.inj H
                                                  have p248 : 0 ≤ (x11_2 : Int) := of_decide_eq_true (by first | (with_reducible assumption) | assumption)
                                                  have q248 : x11_2 < (t235.length : Int) := of_decide_eq_true (by first | (with_reducible assumption) | assumption)
                                                  obtain ⟨ad248, e248, hx248_0, hx248_1, hx248_2, hx248_3, hx248_4⟩ := at_T40 (Kd.R_reads' HO_6.out).2.2 x11_2 p248 q248
                                                  cases e248
                                                  replace p248 := eq_true p248
                                                  replace q248 := eq_true q248
                                                  have p249 : 0 ≤ (x11_2 : Int) := of_decide_eq_true (by first | (with_reducible assumption) | assumption)
                                                  have q249 : x11_2 < (t235.length : Int) := of_decide_eq_true (by first | (with_reducible assumption) | assumption)
                                                  obtain ⟨ad249, e249, hx249_0, hx249_1, hx249_2, hx249_3, hx249_4⟩ := at_T40 (Kd.R_reads' HO_6.out).2.2 x11_2 p249 q249
                                                  obtain rfl : ad248 = ad249 := (by injection e249)
                                                  replace p249 := eq_true p249
                                                  replace q249 := eq_true q249
                                                  obtain ⟨Ao44, co44, eo44⟩ := Kd.S_slice HO_9.out
                                                  subst eo44
                                                  have p250 : 0 ≤ (((rd_T40 t235 x11_2).f1) : Int) := of_decide_eq_true (by first | (with_reducible assumption) | assumption)
                                                  have q250 : ((rd_T40 t235 x11_2).f1) < (t240.length : Int) := of_decide_eq_true (by first | (with_reducible assumption) | assumption)
                                                  obtain ⟨ad250, A250_0, c250_0, e250, hx250_0, hl250_0, hi250_0⟩ := at_L4 (Kd.S_reads' HO_9.out).2.2 ((rd_T40 t235 x11_2).f1) p250 q250
                                                  cases e250
                                                  obtain ⟨ce250, hce250, hMe250, hcc250⟩ := Kd.S_get HO_9.out [] ((rd_T40 t235 x11_2).f1) p250 (by first | exact q250 | exact of_decide_eq_true (by first | (with_reducible assumption) | assumption) | (have e_ := (Kd.S_reads' HO_9.out).1; omega))
                                                  obtain ⟨ve250_0, rfl, ge250_0⟩ := hMe250
                                                  have hv250_0 := hcc250 0 _ rfl
                                                  rw [Nat.add_zero, show ((Kd.slice 3 (Kd.int .i64))).sz = 1 from rfl, Nat.mul_one] at hv250_0
                                                  replace hv250_0 := Option.some.inj (hv250_0.symm.trans hx250_0)
                                                  rw [hv250_0] at ge250_0
                                                  have HL250_0 := Aside0.mk (show Kd.R (Kd.int .i64) 3 _ _ _ _ (rd_L4 t240 ((rd_T40 t235 x11_2).f1)) from ge250_0)
                                                  clear hv250_0 ge250_0
                                                  clear hcc250 hce250
                                                  have HR250_0 := Aside0.mk hi250_0
                                                  have HC250_0 := Aside0.mk hl250_0
                                                  clear hi250_0 hl250_0
                                                  replace p250 := eq_true p250
                                                  replace q250 := eq_true q250
                                                  have p251 : 0 ≤ (x11_2 : Int) := of_decide_eq_true (by first | (with_reducible assumption) | assumption)
                                                  have q251 : x11_2 < (t235.length : Int) := of_decide_eq_true (by first | (with_reducible assumption) | assumption)
                                                  obtain ⟨ad251, e251, hx251_0, hx251_1, hx251_2, hx251_3, hx251_4⟩ := at_T40 (Kd.R_reads' HO_6.out).2.2 x11_2 p251 q251
                                                  obtain rfl : ad248 = ad251 := (by injection e251)
                                                  replace p251 := eq_true p251
                                                  replace q251 := eq_true q251
                                                  have p252 : 0 ≤ (((rd_T40 t235 x11_2).f1) : Int) := of_decide_eq_true (by first | (with_reducible assumption) | assumption)
                                                  have q252 : ((rd_T40 t235 x11_2).f1) < (t240.length : Int) := of_decide_eq_true (by first | (with_reducible assumption) | assumption)
                                                  obtain ⟨ad252, A252_0, c252_0, e252, hx252_0, hl252_0, hi252_0⟩ := at_L4 (Kd.S_reads' HO_9.out).2.2 ((rd_T40 t235 x11_2).f1) p252 q252
                                                  obtain rfl : ad250 = ad252 := (by injection e252)
                                                  obtain ⟨ce252, hce252, hMe252, hcc252⟩ := Kd.S_get HO_9.out [] ((rd_T40 t235 x11_2).f1) p252 (by first | exact q252 | exact of_decide_eq_true (by first | (with_reducible assumption) | assumption) | (have e_ := (Kd.S_reads' HO_9.out).1; omega))
                                                  obtain ⟨ve252_0, rfl, ge252_0⟩ := hMe252
                                                  have hv252_0 := hcc252 0 _ rfl
                                                  rw [Nat.add_zero, show ((Kd.slice 3 (Kd.int .i64))).sz = 1 from rfl, Nat.mul_one] at hv252_0
                                                  replace hv252_0 := Option.some.inj (hv252_0.symm.trans hx252_0)
                                                  rw [hv252_0] at ge252_0
                                                  have HL252_0 := Aside0.mk (show Kd.R (Kd.int .i64) 3 _ _ _ _ (rd_L4 t240 ((rd_T40 t235 x11_2).f1)) from ge252_0)
                                                  clear hv252_0 ge252_0
                                                  clear hcc252 hce252
                                                  have HR252_0 := Aside0.mk hi252_0
                                                  have HC252_0 := Aside0.mk hl252_0
                                                  clear hi252_0 hl252_0
                                                  replace p252 := eq_true p252
                                                  replace q252 := eq_true q252
                                                  have ea_ := Option.some.inj (hx250_0.symm.trans hx252_0)
                                                  injection ea_ with ea_ en_ ec_
                                                  subst ea_
                                                  subst ec_
                                                  clear en_
                                                  have p253 : 0 ≤ (x13_5 : Int) := of_decide_eq_true (by first | (with_reducible assumption) | assumption)
                                                  have q253 : x13_5 < ((rd_L4 t240 ((rd_T40 t235 x11_2).f1)).length : Int) := of_decide_eq_true (by first | (with_reducible assumption) | assumption)
                                                  obtain ⟨ad253, e253, hx253_0⟩ := Kd.at_int (by repeat (first | (with_reducible exact HR252_0.out) | (with_reducible refine Kd.C_alloc ?_ _) | (with_reducible refine Kd.C_drewN ?_ _) | (with_reducible refine Kd.C_drew ?_) | exact HR252_0.out)) x13_5 p253 q253
                                                  cases e253
                                                  replace p253 := eq_true p253
                                                  replace q253 := eq_true q253
                                                  go_wp2
                                                  repeat (go_quiet (fail); try go_wp2)
                                                  go_ret
                                                  exact ⟨by first | rfl | (simp [errW_none, errW_some] <;> rfl) | (simp only [← hji5]; first | rfl | (simp [errW_none, errW_some] <;> rfl)) | (simp [*, errW_none, errW_some] <;> rfl), by repeat (first | (with_reducible first | exact HB.out | apply below_alloc | apply pw_below_drewN | apply below_drew1) | exact HB.out)⟩
                                                · rw [if_neg c43] at H
                                                  have c43b0 : decide ((rd (rd_L4 t240 ((rd_T40 t235 x11_2).f1)) x13_5) < 0) = false := decide_eq_false c43
                                                  clear c43
                                                  by_cases c45 : (rd (rd_L4 t240 ((rd_T40 t235 x11_2).f1)) x13_5) ≥ x11_2
                                                  · rw [if_pos c45] at H
                                                    have c45b0 : decide (x11_2 ≤ (rd (rd_L4 t240 ((rd_T40 t235 x11_2).f1)) x13_5)) = true := decide_eq_true c45
                                                    clear c45
                                                    obtain rfl := Option.some.inj H
                                                    have p248 : 0 ≤ (x11_2 : Int) := of_decide_eq_true (by first | (with_reducible assumption) | assumption)
                                                    have q248 : x11_2 < (t235.length : Int) := of_decide_eq_true (by first | (with_reducible assumption) | assumption)
                                                    obtain ⟨ad248, e248, hx248_0, hx248_1, hx248_2, hx248_3, hx248_4⟩ := at_T40 (Kd.R_reads' HO_6.out).2.2 x11_2 p248 q248
                                                    cases e248
                                                    replace p248 := eq_true p248
                                                    replace q248 := eq_true q248
                                                    have p249 : 0 ≤ (x11_2 : Int) := of_decide_eq_true (by first | (with_reducible assumption) | assumption)
                                                    have q249 : x11_2 < (t235.length : Int) := of_decide_eq_true (by first | (with_reducible assumption) | assumption)
                                                    obtain ⟨ad249, e249, hx249_0, hx249_1, hx249_2, hx249_3, hx249_4⟩ := at_T40 (Kd.R_reads' HO_6.out).2.2 x11_2 p249 q249
                                                    obtain rfl : ad248 = ad249 := (by injection e249)
                                                    replace p249 := eq_true p249
                                                    replace q249 := eq_true q249
                                                    obtain ⟨Ao46, co46, eo46⟩ := Kd.S_slice HO_9.out
                                                    subst eo46
                                                    have p250 : 0 ≤ (((rd_T40 t235 x11_2).f1) : Int) := of_decide_eq_true (by first | (with_reducible assumption) | assumption)
                                                    have q250 : ((rd_T40 t235 x11_2).f1) < (t240.length : Int) := of_decide_eq_true (by first | (with_reducible assumption) | assumption)
                                                    obtain ⟨ad250, A250_0, c250_0, e250, hx250_0, hl250_0, hi250_0⟩ := at_L4 (Kd.S_reads' HO_9.out).2.2 ((rd_T40 t235 x11_2).f1) p250 q250
                                                    cases e250
                                                    obtain ⟨ce250, hce250, hMe250, hcc250⟩ := Kd.S_get HO_9.out [] ((rd_T40 t235 x11_2).f1) p250 (by first | exact q250 | exact of_decide_eq_true (by first | (with_reducible assumption) | assumption) | (have e_ := (Kd.S_reads' HO_9.out).1; omega))
                                                    obtain ⟨ve250_0, rfl, ge250_0⟩ := hMe250
                                                    have hv250_0 := hcc250 0 _ rfl
                                                    rw [Nat.add_zero, show ((Kd.slice 3 (Kd.int .i64))).sz = 1 from rfl, Nat.mul_one] at hv250_0
                                                    replace hv250_0 := Option.some.inj (hv250_0.symm.trans hx250_0)
                                                    rw [hv250_0] at ge250_0
                                                    have HL250_0 := Aside0.mk (show Kd.R (Kd.int .i64) 3 _ _ _ _ (rd_L4 t240 ((rd_T40 t235 x11_2).f1)) from ge250_0)
                                                    clear hv250_0 ge250_0
                                                    clear hcc250 hce250
                                                    have HR250_0 := Aside0.mk hi250_0
                                                    have HC250_0 := Aside0.mk hl250_0
                                                    clear hi250_0 hl250_0
                                                    replace p250 := eq_true p250
                                                    replace q250 := eq_true q250
                                                    have p251 : 0 ≤ (x11_2 : Int) := of_decide_eq_true (by first | (with_reducible assumption) | assumption)
                                                    have q251 : x11_2 < (t235.length : Int) := of_decide_eq_true (by first | (with_reducible assumption) | assumption)
                                                    obtain ⟨ad251, e251, hx251_0, hx251_1, hx251_2, hx251_3, hx251_4⟩ := at_T40 (Kd.R_reads' HO_6.out).2.2 x11_2 p251 q251
                                                    obtain rfl : ad248 = ad251 := (by injection e251)
                                                    replace p251 := eq_true p251
                                                    replace q251 := eq_true q251
                                                    have p252 : 0 ≤ (((rd_T40 t235 x11_2).f1) : Int) := of_decide_eq_true (by first | (with_reducible assumption) | assumption)
                                                    have q252 : ((rd_T40 t235 x11_2).f1) < (t240.length : Int) := of_decide_eq_true (by first | (with_reducible assumption) | assumption)
                                                    obtain ⟨ad252, A252_0, c252_0, e252, hx252_0, hl252_0, hi252_0⟩ := at_L4 (Kd.S_reads' HO_9.out).2.2 ((rd_T40 t235 x11_2).f1) p252 q252
                                                    obtain rfl : ad250 = ad252 := (by injection e252)
                                                    obtain ⟨ce252, hce252, hMe252, hcc252⟩ := Kd.S_get HO_9.out [] ((rd_T40 t235 x11_2).f1) p252 (by first | exact q252 | exact of_decide_eq_true (by first | (with_reducible assumption) | assumption) | (have e_ := (Kd.S_reads' HO_9.out).1; omega))
                                                    obtain ⟨ve252_0, rfl, ge252_0⟩ := hMe252
                                                    have hv252_0 := hcc252 0 _ rfl
                                                    rw [Nat.add_zero, show ((Kd.slice 3 (Kd.int .i64))).sz = 1 from rfl, Nat.mul_one] at hv252_0
                                                    replace hv252_0 := Option.some.inj (hv252_0.symm.trans hx252_0)
                                                    rw [hv252_0] at ge252_0
                                                    have HL252_0 := Aside0.mk (show Kd.R (Kd.int .i64) 3 _ _ _ _ (rd_L4 t240 ((rd_T40 t235 x11_2).f1)) from ge252_0)
                                                    clear hv252_0 ge252_0
                                                    clear hcc252 hce252
                                                    have HR252_0 := Aside0.mk hi252_0
                                                    have HC252_0 := Aside0.mk hl252_0
                                                    clear hi252_0 hl252_0
                                                    replace p252 := eq_true p252
                                                    replace q252 := eq_true q252
                                                    have ea_ := Option.some.inj (hx250_0.symm.trans hx252_0)
                                                    injection ea_ with ea_ en_ ec_
                                                    subst ea_
                                                    subst ec_
                                                    clear en_
                                                    have p253 : 0 ≤ (x13_5 : Int) := of_decide_eq_true (by first | (with_reducible assumption) | assumption)
                                                    have q253 : x13_5 < ((rd_L4 t240 ((rd_T40 t235 x11_2).f1)).length : Int) := of_decide_eq_true (by first | (with_reducible assumption) | assumption)
                                                    obtain ⟨ad253, e253, hx253_0⟩ := Kd.at_int (by repeat (first | (with_reducible exact HR252_0.out) | (with_reducible refine Kd.C_alloc ?_ _) | (with_reducible refine Kd.C_drewN ?_ _) | (with_reducible refine Kd.C_drew ?_) | exact HR252_0.out)) x13_5 p253 q253
                                                    cases e253
                                                    replace p253 := eq_true p253
                                                    replace q253 := eq_true q253
                                                    have p254 : 0 ≤ (x11_2 : Int) := of_decide_eq_true (by first | (with_reducible assumption) | assumption)
                                                    have q254 : x11_2 < (t235.length : Int) := of_decide_eq_true (by first | (with_reducible assumption) | assumption)
                                                    obtain ⟨ad254, e254, hx254_0, hx254_1, hx254_2, hx254_3, hx254_4⟩ := at_T40 (Kd.R_reads' HO_6.out).2.2 x11_2 p254 q254
                                                    obtain rfl : ad248 = ad254 := (by injection e254)
                                                    replace p254 := eq_true p254
                                                    replace q254 := eq_true q254
                                                    have p255 : 0 ≤ (((rd_T40 t235 x11_2).f1) : Int) := of_decide_eq_true (by first | (with_reducible assumption) | assumption)
                                                    have q255 : ((rd_T40 t235 x11_2).f1) < (t240.length : Int) := of_decide_eq_true (by first | (with_reducible assumption) | assumption)
                                                    obtain ⟨ad255, A255_0, c255_0, e255, hx255_0, hl255_0, hi255_0⟩ := at_L4 (Kd.S_reads' HO_9.out).2.2 ((rd_T40 t235 x11_2).f1) p255 q255
                                                    obtain rfl : ad250 = ad255 := (by injection e255)
                                                    obtain ⟨ce255, hce255, hMe255, hcc255⟩ := Kd.S_get HO_9.out [] ((rd_T40 t235 x11_2).f1) p255 (by first | exact q255 | exact of_decide_eq_true (by first | (with_reducible assumption) | assumption) | (have e_ := (Kd.S_reads' HO_9.out).1; omega))
                                                    obtain ⟨ve255_0, rfl, ge255_0⟩ := hMe255
                                                    have hv255_0 := hcc255 0 _ rfl
                                                    rw [Nat.add_zero, show ((Kd.slice 3 (Kd.int .i64))).sz = 1 from rfl, Nat.mul_one] at hv255_0
                                                    replace hv255_0 := Option.some.inj (hv255_0.symm.trans hx255_0)
                                                    rw [hv255_0] at ge255_0
                                                    have HL255_0 := Aside0.mk (show Kd.R (Kd.int .i64) 3 _ _ _ _ (rd_L4 t240 ((rd_T40 t235 x11_2).f1)) from ge255_0)
                                                    clear hv255_0 ge255_0
                                                    clear hcc255 hce255
                                                    have HR255_0 := Aside0.mk hi255_0
                                                    have HC255_0 := Aside0.mk hl255_0
                                                    clear hi255_0 hl255_0
                                                    replace p255 := eq_true p255
                                                    replace q255 := eq_true q255
                                                    have ea_ := Option.some.inj (hx250_0.symm.trans hx255_0)
                                                    injection ea_ with ea_ en_ ec_
                                                    subst ea_
                                                    subst ec_
                                                    clear en_
                                                    have p256 : 0 ≤ (x13_5 : Int) := of_decide_eq_true (by first | (with_reducible assumption) | assumption)
                                                    have q256 : x13_5 < ((rd_L4 t240 ((rd_T40 t235 x11_2).f1)).length : Int) := of_decide_eq_true (by first | (with_reducible assumption) | assumption)
                                                    obtain ⟨ad256, e256, hx256_0⟩ := Kd.at_int (by repeat (first | (with_reducible exact HR255_0.out) | (with_reducible refine Kd.C_alloc ?_ _) | (with_reducible refine Kd.C_drewN ?_ _) | (with_reducible refine Kd.C_drew ?_) | exact HR255_0.out)) x13_5 p256 q256
                                                    cases e256
                                                    replace p256 := eq_true p256
                                                    replace q256 := eq_true q256
                                                    go_wp2
                                                    repeat (go_quiet (fail); try go_wp2)
                                                    go_ret
                                                    exact ⟨by first | rfl | (simp [errW_none, errW_some] <;> rfl) | (simp only [← hji5]; first | rfl | (simp [errW_none, errW_some] <;> rfl)) | (simp [*, errW_none, errW_some] <;> rfl), by repeat (first | (with_reducible first | exact HB.out | apply below_alloc | apply pw_below_drewN | apply below_drew1) | exact HB.out)⟩
                                                  · rw [if_neg c45] at H
                                                    have c45b0 : decide (x11_2 ≤ (rd (rd_L4 t240 ((rd_T40 t235 x11_2).f1)) x13_5)) = false := decide_eq_false c45
                                                    clear c45
                                                    by_cases c47 : 0 ≤ (rd (rd_L4 t240 ((rd_T40 t235 x11_2).f1)) x13_5)
                                                    · rw [if_pos c47] at H
                                                      have c47b0 : decide (0 ≤ (rd (rd_L4 t240 ((rd_T40 t235 x11_2).f1)) x13_5)) = true := decide_eq_true c47
                                                      clear c47
                                                      by_cases c48 : (rd (rd_L4 t240 ((rd_T40 t235 x11_2).f1)) x13_5) < (t235.length : Int)
                                                      · rw [if_pos c48] at H
                                                        have c48b0 : decide ((rd (rd_L4 t240 ((rd_T40 t235 x11_2).f1)) x13_5) < (t235.length : Int)) = true := decide_eq_true c48
                                                        clear c48
                                                        by_cases c49 : ((rd_T40 t235 (rd (rd_L4 t240 ((rd_T40 t235 x11_2).f1)) x13_5)).f1) ≥ ((rd_T40 t235 x11_2).f1)
                                                        · rw [if_pos c49] at H
                                                          have c49b0 : decide (((rd_T40 t235 x11_2).f1) ≤ ((rd_T40 t235 (rd (rd_L4 t240 ((rd_T40 t235 x11_2).f1)) x13_5)).f1)) = true := decide_eq_true c49
                                                          clear c49
                                                          obtain rfl := Option.some.inj H
                                                          have p248 : 0 ≤ (x11_2 : Int) := of_decide_eq_true (by first | (with_reducible assumption) | assumption)
                                                          have q248 : x11_2 < (t235.length : Int) := of_decide_eq_true (by first | (with_reducible assumption) | assumption)
                                                          obtain ⟨ad248, e248, hx248_0, hx248_1, hx248_2, hx248_3, hx248_4⟩ := at_T40 (Kd.R_reads' HO_6.out).2.2 x11_2 p248 q248
                                                          cases e248
                                                          replace p248 := eq_true p248
                                                          replace q248 := eq_true q248
                                                          have p249 : 0 ≤ (x11_2 : Int) := of_decide_eq_true (by first | (with_reducible assumption) | assumption)
                                                          have q249 : x11_2 < (t235.length : Int) := of_decide_eq_true (by first | (with_reducible assumption) | assumption)
                                                          obtain ⟨ad249, e249, hx249_0, hx249_1, hx249_2, hx249_3, hx249_4⟩ := at_T40 (Kd.R_reads' HO_6.out).2.2 x11_2 p249 q249
                                                          obtain rfl : ad248 = ad249 := (by injection e249)
                                                          replace p249 := eq_true p249
                                                          replace q249 := eq_true q249
                                                          obtain ⟨Ao50, co50, eo50⟩ := Kd.S_slice HO_9.out
                                                          subst eo50
                                                          have p250 : 0 ≤ (((rd_T40 t235 x11_2).f1) : Int) := of_decide_eq_true (by first | (with_reducible assumption) | assumption)
                                                          have q250 : ((rd_T40 t235 x11_2).f1) < (t240.length : Int) := of_decide_eq_true (by first | (with_reducible assumption) | assumption)
                                                          obtain ⟨ad250, A250_0, c250_0, e250, hx250_0, hl250_0, hi250_0⟩ := at_L4 (Kd.S_reads' HO_9.out).2.2 ((rd_T40 t235 x11_2).f1) p250 q250
                                                          cases e250
                                                          obtain ⟨ce250, hce250, hMe250, hcc250⟩ := Kd.S_get HO_9.out [] ((rd_T40 t235 x11_2).f1) p250 (by first | exact q250 | exact of_decide_eq_true (by first | (with_reducible assumption) | assumption) | (have e_ := (Kd.S_reads' HO_9.out).1; omega))
                                                          obtain ⟨ve250_0, rfl, ge250_0⟩ := hMe250
                                                          have hv250_0 := hcc250 0 _ rfl
                                                          rw [Nat.add_zero, show ((Kd.slice 3 (Kd.int .i64))).sz = 1 from rfl, Nat.mul_one] at hv250_0
                                                          replace hv250_0 := Option.some.inj (hv250_0.symm.trans hx250_0)
                                                          rw [hv250_0] at ge250_0
                                                          have HL250_0 := Aside0.mk (show Kd.R (Kd.int .i64) 3 _ _ _ _ (rd_L4 t240 ((rd_T40 t235 x11_2).f1)) from ge250_0)
                                                          clear hv250_0 ge250_0
                                                          clear hcc250 hce250
                                                          have HR250_0 := Aside0.mk hi250_0
                                                          have HC250_0 := Aside0.mk hl250_0
                                                          clear hi250_0 hl250_0
                                                          replace p250 := eq_true p250
                                                          replace q250 := eq_true q250
                                                          have p251 : 0 ≤ (x11_2 : Int) := of_decide_eq_true (by first | (with_reducible assumption) | assumption)
                                                          have q251 : x11_2 < (t235.length : Int) := of_decide_eq_true (by first | (with_reducible assumption) | assumption)
                                                          obtain ⟨ad251, e251, hx251_0, hx251_1, hx251_2, hx251_3, hx251_4⟩ := at_T40 (Kd.R_reads' HO_6.out).2.2 x11_2 p251 q251
                                                          obtain rfl : ad248 = ad251 := (by injection e251)
                                                          replace p251 := eq_true p251
                                                          replace q251 := eq_true q251
                                                          have p252 : 0 ≤ (((rd_T40 t235 x11_2).f1) : Int) := of_decide_eq_true (by first | (with_reducible assumption) | assumption)
                                                          have q252 : ((rd_T40 t235 x11_2).f1) < (t240.length : Int) := of_decide_eq_true (by first | (with_reducible assumption) | assumption)
                                                          obtain ⟨ad252, A252_0, c252_0, e252, hx252_0, hl252_0, hi252_0⟩ := at_L4 (Kd.S_reads' HO_9.out).2.2 ((rd_T40 t235 x11_2).f1) p252 q252
                                                          obtain rfl : ad250 = ad252 := (by injection e252)
                                                          obtain ⟨ce252, hce252, hMe252, hcc252⟩ := Kd.S_get HO_9.out [] ((rd_T40 t235 x11_2).f1) p252 (by first | exact q252 | exact of_decide_eq_true (by first | (with_reducible assumption) | assumption) | (have e_ := (Kd.S_reads' HO_9.out).1; omega))
                                                          obtain ⟨ve252_0, rfl, ge252_0⟩ := hMe252
                                                          have hv252_0 := hcc252 0 _ rfl
                                                          rw [Nat.add_zero, show ((Kd.slice 3 (Kd.int .i64))).sz = 1 from rfl, Nat.mul_one] at hv252_0
                                                          replace hv252_0 := Option.some.inj (hv252_0.symm.trans hx252_0)
                                                          rw [hv252_0] at ge252_0
                                                          have HL252_0 := Aside0.mk (show Kd.R (Kd.int .i64) 3 _ _ _ _ (rd_L4 t240 ((rd_T40 t235 x11_2).f1)) from ge252_0)
                                                          clear hv252_0 ge252_0
                                                          clear hcc252 hce252
                                                          have HR252_0 := Aside0.mk hi252_0
                                                          have HC252_0 := Aside0.mk hl252_0
                                                          clear hi252_0 hl252_0
                                                          replace p252 := eq_true p252
                                                          replace q252 := eq_true q252
                                                          have ea_ := Option.some.inj (hx250_0.symm.trans hx252_0)
                                                          injection ea_ with ea_ en_ ec_
                                                          subst ea_
                                                          subst ec_
                                                          clear en_
                                                          have p253 : 0 ≤ (x13_5 : Int) := of_decide_eq_true (by first | (with_reducible assumption) | assumption)
                                                          have q253 : x13_5 < ((rd_L4 t240 ((rd_T40 t235 x11_2).f1)).length : Int) := of_decide_eq_true (by first | (with_reducible assumption) | assumption)
                                                          obtain ⟨ad253, e253, hx253_0⟩ := Kd.at_int (by repeat (first | (with_reducible exact HR252_0.out) | (with_reducible refine Kd.C_alloc ?_ _) | (with_reducible refine Kd.C_drewN ?_ _) | (with_reducible refine Kd.C_drew ?_) | exact HR252_0.out)) x13_5 p253 q253
                                                          cases e253
                                                          replace p253 := eq_true p253
                                                          replace q253 := eq_true q253
                                                          have p254 : 0 ≤ (x11_2 : Int) := of_decide_eq_true (by first | (with_reducible assumption) | assumption)
                                                          have q254 : x11_2 < (t235.length : Int) := of_decide_eq_true (by first | (with_reducible assumption) | assumption)
                                                          obtain ⟨ad254, e254, hx254_0, hx254_1, hx254_2, hx254_3, hx254_4⟩ := at_T40 (Kd.R_reads' HO_6.out).2.2 x11_2 p254 q254
                                                          obtain rfl : ad248 = ad254 := (by injection e254)
                                                          replace p254 := eq_true p254
                                                          replace q254 := eq_true q254
                                                          have p255 : 0 ≤ (((rd_T40 t235 x11_2).f1) : Int) := of_decide_eq_true (by first | (with_reducible assumption) | assumption)
                                                          have q255 : ((rd_T40 t235 x11_2).f1) < (t240.length : Int) := of_decide_eq_true (by first | (with_reducible assumption) | assumption)
                                                          obtain ⟨ad255, A255_0, c255_0, e255, hx255_0, hl255_0, hi255_0⟩ := at_L4 (Kd.S_reads' HO_9.out).2.2 ((rd_T40 t235 x11_2).f1) p255 q255
                                                          obtain rfl : ad250 = ad255 := (by injection e255)
                                                          obtain ⟨ce255, hce255, hMe255, hcc255⟩ := Kd.S_get HO_9.out [] ((rd_T40 t235 x11_2).f1) p255 (by first | exact q255 | exact of_decide_eq_true (by first | (with_reducible assumption) | assumption) | (have e_ := (Kd.S_reads' HO_9.out).1; omega))
                                                          obtain ⟨ve255_0, rfl, ge255_0⟩ := hMe255
                                                          have hv255_0 := hcc255 0 _ rfl
                                                          rw [Nat.add_zero, show ((Kd.slice 3 (Kd.int .i64))).sz = 1 from rfl, Nat.mul_one] at hv255_0
                                                          replace hv255_0 := Option.some.inj (hv255_0.symm.trans hx255_0)
                                                          rw [hv255_0] at ge255_0
                                                          have HL255_0 := Aside0.mk (show Kd.R (Kd.int .i64) 3 _ _ _ _ (rd_L4 t240 ((rd_T40 t235 x11_2).f1)) from ge255_0)
                                                          clear hv255_0 ge255_0
                                                          clear hcc255 hce255
                                                          have HR255_0 := Aside0.mk hi255_0
                                                          have HC255_0 := Aside0.mk hl255_0
                                                          clear hi255_0 hl255_0
                                                          replace p255 := eq_true p255
                                                          replace q255 := eq_true q255
                                                          have ea_ := Option.some.inj (hx250_0.symm.trans hx255_0)
                                                          injection ea_ with ea_ en_ ec_
                                                          subst ea_
                                                          subst ec_
                                                          clear en_
                                                          have p256 : 0 ≤ (x13_5 : Int) := of_decide_eq_true (by first | (with_reducible assumption) | assumption)
                                                          have q256 : x13_5 < ((rd_L4 t240 ((rd_T40 t235 x11_2).f1)).length : Int) := of_decide_eq_true (by first | (with_reducible assumption) | assumption)
                                                          obtain ⟨ad256, e256, hx256_0⟩ := Kd.at_int (by repeat (first | (with_reducible exact HR255_0.out) | (with_reducible refine Kd.C_alloc ?_ _) | (with_reducible refine Kd.C_drewN ?_ _) | (with_reducible refine Kd.C_drew ?_) | exact HR255_0.out)) x13_5 p256 q256
                                                          cases e256
                                                          replace p256 := eq_true p256
                                                          replace q256 := eq_true q256
                                                          have p257 : 0 ≤ (x11_2 : Int) := of_decide_eq_true (by first | (with_reducible assumption) | assumption)
                                                          have q257 : x11_2 < (t235.length : Int) := of_decide_eq_true (by first | (with_reducible assumption) | assumption)
                                                          obtain ⟨ad257, e257, hx257_0, hx257_1, hx257_2, hx257_3, hx257_4⟩ := at_T40 (Kd.R_reads' HO_6.out).2.2 x11_2 p257 q257
                                                          obtain rfl : ad248 = ad257 := (by injection e257)
                                                          replace p257 := eq_true p257
                                                          replace q257 := eq_true q257
                                                          have p258 : 0 ≤ (((rd_T40 t235 x11_2).f1) : Int) := of_decide_eq_true (by first | (with_reducible assumption) | assumption)
                                                          have q258 : ((rd_T40 t235 x11_2).f1) < (t240.length : Int) := of_decide_eq_true (by first | (with_reducible assumption) | assumption)
                                                          obtain ⟨ad258, A258_0, c258_0, e258, hx258_0, hl258_0, hi258_0⟩ := at_L4 (Kd.S_reads' HO_9.out).2.2 ((rd_T40 t235 x11_2).f1) p258 q258
                                                          obtain rfl : ad250 = ad258 := (by injection e258)
                                                          obtain ⟨ce258, hce258, hMe258, hcc258⟩ := Kd.S_get HO_9.out [] ((rd_T40 t235 x11_2).f1) p258 (by first | exact q258 | exact of_decide_eq_true (by first | (with_reducible assumption) | assumption) | (have e_ := (Kd.S_reads' HO_9.out).1; omega))
                                                          obtain ⟨ve258_0, rfl, ge258_0⟩ := hMe258
                                                          have hv258_0 := hcc258 0 _ rfl
                                                          rw [Nat.add_zero, show ((Kd.slice 3 (Kd.int .i64))).sz = 1 from rfl, Nat.mul_one] at hv258_0
                                                          replace hv258_0 := Option.some.inj (hv258_0.symm.trans hx258_0)
                                                          rw [hv258_0] at ge258_0
                                                          have HL258_0 := Aside0.mk (show Kd.R (Kd.int .i64) 3 _ _ _ _ (rd_L4 t240 ((rd_T40 t235 x11_2).f1)) from ge258_0)
                                                          clear hv258_0 ge258_0
                                                          clear hcc258 hce258
                                                          have HR258_0 := Aside0.mk hi258_0
                                                          have HC258_0 := Aside0.mk hl258_0
                                                          clear hi258_0 hl258_0
                                                          replace p258 := eq_true p258
                                                          replace q258 := eq_true q258
                                                          have ea_ := Option.some.inj (hx250_0.symm.trans hx258_0)
                                                          injection ea_ with ea_ en_ ec_
                                                          subst ea_
                                                          subst ec_
                                                          clear en_
                                                          have p259 : 0 ≤ (x13_5 : Int) := of_decide_eq_true (by first | (with_reducible assumption) | assumption)
                                                          have q259 : x13_5 < ((rd_L4 t240 ((rd_T40 t235 x11_2).f1)).length : Int) := of_decide_eq_true (by first | (with_reducible assumption) | assumption)
                                                          obtain ⟨ad259, e259, hx259_0⟩ := Kd.at_int (by repeat (first | (with_reducible exact HR258_0.out) | (with_reducible refine Kd.C_alloc ?_ _) | (with_reducible refine Kd.C_drewN ?_ _) | (with_reducible refine Kd.C_drew ?_) | exact HR258_0.out)) x13_5 p259 q259
                                                          cases e259
                                                          replace p259 := eq_true p259
                                                          replace q259 := eq_true q259
                                                          have p260 : 0 ≤ ((rd (rd_L4 t240 ((rd_T40 t235 x11_2).f1)) x13_5) : Int) := of_decide_eq_true (by first | (with_reducible assumption) | assumption)
                                                          have q260 : (rd (rd_L4 t240 ((rd_T40 t235 x11_2).f1)) x13_5) < (t235.length : Int) := of_decide_eq_true (by first | (with_reducible assumption) | assumption)
                                                          obtain ⟨ad260, e260, hx260_0, hx260_1, hx260_2, hx260_3, hx260_4⟩ := at_T40 (Kd.R_reads' HO_6.out).2.2 (rd (rd_L4 t240 ((rd_T40 t235 x11_2).f1)) x13_5) p260 q260
                                                          obtain rfl : ad248 = ad260 := (by injection e260)
                                                          replace p260 := eq_true p260
                                                          replace q260 := eq_true q260
                                                          have p261 : 0 ≤ (x11_2 : Int) := of_decide_eq_true (by first | (with_reducible assumption) | assumption)
                                                          have q261 : x11_2 < (t235.length : Int) := of_decide_eq_true (by first | (with_reducible assumption) | assumption)
                                                          obtain ⟨ad261, e261, hx261_0, hx261_1, hx261_2, hx261_3, hx261_4⟩ := at_T40 (Kd.R_reads' HO_6.out).2.2 x11_2 p261 q261
                                                          obtain rfl : ad248 = ad261 := (by injection e261)
                                                          replace p261 := eq_true p261
                                                          replace q261 := eq_true q261
                                                          go_wp2
                                                          repeat (go_quiet (fail); try go_wp2)
                                                          go_ret
                                                          exact ⟨by first | rfl | (simp [errW_none, errW_some] <;> rfl) | (simp only [← hji5]; first | rfl | (simp [errW_none, errW_some] <;> rfl)) | (simp [*, errW_none, errW_some] <;> rfl), by repeat (first | (with_reducible first | exact HB.out | apply below_alloc | apply pw_below_drewN | apply below_drew1) | exact HB.out)⟩
                                                        · rw [if_neg c49] at H
                                                          have c49b0 : decide (((rd_T40 t235 x11_2).f1) ≤ ((rd_T40 t235 (rd (rd_L4 t240 ((rd_T40 t235 x11_2).f1)) x13_5)).f1)) = false := decide_eq_false c49
                                                          clear c49
                                                          have H' := Aside0.mk H
                                                          clear H
                                                          have p248 : 0 ≤ (x11_2 : Int) := of_decide_eq_true (by first | (with_reducible assumption) | assumption)
                                                          have q248 : x11_2 < (t235.length : Int) := of_decide_eq_true (by first | (with_reducible assumption) | assumption)
                                                          obtain ⟨ad248, e248, hx248_0, hx248_1, hx248_2, hx248_3, hx248_4⟩ := at_T40 (Kd.R_reads' HO_6.out).2.2 x11_2 p248 q248
                                                          cases e248
                                                          replace p248 := eq_true p248
                                                          replace q248 := eq_true q248
                                                          have p249 : 0 ≤ (x11_2 : Int) := of_decide_eq_true (by first | (with_reducible assumption) | assumption)
                                                          have q249 : x11_2 < (t235.length : Int) := of_decide_eq_true (by first | (with_reducible assumption) | assumption)
                                                          obtain ⟨ad249, e249, hx249_0, hx249_1, hx249_2, hx249_3, hx249_4⟩ := at_T40 (Kd.R_reads' HO_6.out).2.2 x11_2 p249 q249
                                                          obtain rfl : ad248 = ad249 := (by injection e249)
                                                          replace p249 := eq_true p249
                                                          replace q249 := eq_true q249
                                                          obtain ⟨Ao51, co51, eo51⟩ := Kd.S_slice HO_9.out
                                                          subst eo51
                                                          have p250 : 0 ≤ (((rd_T40 t235 x11_2).f1) : Int) := of_decide_eq_true (by first | (with_reducible assumption) | assumption)
                                                          have q250 : ((rd_T40 t235 x11_2).f1) < (t240.length : Int) := of_decide_eq_true (by first | (with_reducible assumption) | assumption)
                                                          obtain ⟨ad250, A250_0, c250_0, e250, hx250_0, hl250_0, hi250_0⟩ := at_L4 (Kd.S_reads' HO_9.out).2.2 ((rd_T40 t235 x11_2).f1) p250 q250
                                                          cases e250
                                                          obtain ⟨ce250, hce250, hMe250, hcc250⟩ := Kd.S_get HO_9.out [] ((rd_T40 t235 x11_2).f1) p250 (by first | exact q250 | exact of_decide_eq_true (by first | (with_reducible assumption) | assumption) | (have e_ := (Kd.S_reads' HO_9.out).1; omega))
                                                          obtain ⟨ve250_0, rfl, ge250_0⟩ := hMe250
                                                          have hv250_0 := hcc250 0 _ rfl
                                                          rw [Nat.add_zero, show ((Kd.slice 3 (Kd.int .i64))).sz = 1 from rfl, Nat.mul_one] at hv250_0
                                                          replace hv250_0 := Option.some.inj (hv250_0.symm.trans hx250_0)
                                                          rw [hv250_0] at ge250_0
                                                          have HL250_0 := Aside0.mk (show Kd.R (Kd.int .i64) 3 _ _ _ _ (rd_L4 t240 ((rd_T40 t235 x11_2).f1)) from ge250_0)
                                                          clear hv250_0 ge250_0
                                                          clear hcc250 hce250
                                                          have HR250_0 := Aside0.mk hi250_0
                                                          have HC250_0 := Aside0.mk hl250_0
                                                          clear hi250_0 hl250_0
                                                          replace p250 := eq_true p250
                                                          replace q250 := eq_true q250
                                                          have p251 : 0 ≤ (x11_2 : Int) := of_decide_eq_true (by first | (with_reducible assumption) | assumption)
                                                          have q251 : x11_2 < (t235.length : Int) := of_decide_eq_true (by first | (with_reducible assumption) | assumption)
                                                          obtain ⟨ad251, e251, hx251_0, hx251_1, hx251_2, hx251_3, hx251_4⟩ := at_T40 (Kd.R_reads' HO_6.out).2.2 x11_2 p251 q251
                                                          obtain rfl : ad248 = ad251 := (by injection e251)
                                                          replace p251 := eq_true p251
                                                          replace q251 := eq_true q251
                                                          have p252 : 0 ≤ (((rd_T40 t235 x11_2).f1) : Int) := of_decide_eq_true (by first | (with_reducible assumption) | assumption)
                                                          have q252 : ((rd_T40 t235 x11_2).f1) < (t240.length : Int) := of_decide_eq_true (by first | (with_reducible assumption) | assumption)
                                                          obtain ⟨ad252, A252_0, c252_0, e252, hx252_0, hl252_0, hi252_0⟩ := at_L4 (Kd.S_reads' HO_9.out).2.2 ((rd_T40 t235 x11_2).f1) p252 q252
                                                          obtain rfl : ad250 = ad252 := (by injection e252)
                                                          obtain ⟨ce252, hce252, hMe252, hcc252⟩ := Kd.S_get HO_9.out [] ((rd_T40 t235 x11_2).f1) p252 (by first | exact q252 | exact of_decide_eq_true (by first | (with_reducible assumption) | assumption) | (have e_ := (Kd.S_reads' HO_9.out).1; omega))
                                                          obtain ⟨ve252_0, rfl, ge252_0⟩ := hMe252
                                                          have hv252_0 := hcc252 0 _ rfl
                                                          rw [Nat.add_zero, show ((Kd.slice 3 (Kd.int .i64))).sz = 1 from rfl, Nat.mul_one] at hv252_0
                                                          replace hv252_0 := Option.some.inj (hv252_0.symm.trans hx252_0)
                                                          rw [hv252_0] at ge252_0
                                                          have HL252_0 := Aside0.mk (show Kd.R (Kd.int .i64) 3 _ _ _ _ (rd_L4 t240 ((rd_T40 t235 x11_2).f1)) from ge252_0)
                                                          clear hv252_0 ge252_0
                                                          clear hcc252 hce252
                                                          have HR252_0 := Aside0.mk hi252_0
                                                          have HC252_0 := Aside0.mk hl252_0
                                                          clear hi252_0 hl252_0
                                                          replace p252 := eq_true p252
                                                          replace q252 := eq_true q252
                                                          have ea_ := Option.some.inj (hx250_0.symm.trans hx252_0)
                                                          injection ea_ with ea_ en_ ec_
                                                          subst ea_
                                                          subst ec_
                                                          clear en_
                                                          have p253 : 0 ≤ (x13_5 : Int) := of_decide_eq_true (by first | (with_reducible assumption) | assumption)
                                                          have q253 : x13_5 < ((rd_L4 t240 ((rd_T40 t235 x11_2).f1)).length : Int) := of_decide_eq_true (by first | (with_reducible assumption) | assumption)
                                                          obtain ⟨ad253, e253, hx253_0⟩ := Kd.at_int (by repeat (first | (with_reducible exact HR252_0.out) | (with_reducible refine Kd.C_alloc ?_ _) | (with_reducible refine Kd.C_drewN ?_ _) | (with_reducible refine Kd.C_drew ?_) | exact HR252_0.out)) x13_5 p253 q253
                                                          cases e253
                                                          replace p253 := eq_true p253
                                                          replace q253 := eq_true q253
                                                          have p254 : 0 ≤ (x11_2 : Int) := of_decide_eq_true (by first | (with_reducible assumption) | assumption)
                                                          have q254 : x11_2 < (t235.length : Int) := of_decide_eq_true (by first | (with_reducible assumption) | assumption)
                                                          obtain ⟨ad254, e254, hx254_0, hx254_1, hx254_2, hx254_3, hx254_4⟩ := at_T40 (Kd.R_reads' HO_6.out).2.2 x11_2 p254 q254
                                                          obtain rfl : ad248 = ad254 := (by injection e254)
                                                          replace p254 := eq_true p254
                                                          replace q254 := eq_true q254
                                                          have p255 : 0 ≤ (((rd_T40 t235 x11_2).f1) : Int) := of_decide_eq_true (by first | (with_reducible assumption) | assumption)
                                                          have q255 : ((rd_T40 t235 x11_2).f1) < (t240.length : Int) := of_decide_eq_true (by first | (with_reducible assumption) | assumption)
                                                          obtain ⟨ad255, A255_0, c255_0, e255, hx255_0, hl255_0, hi255_0⟩ := at_L4 (Kd.S_reads' HO_9.out).2.2 ((rd_T40 t235 x11_2).f1) p255 q255
                                                          obtain rfl : ad250 = ad255 := (by injection e255)
                                                          obtain ⟨ce255, hce255, hMe255, hcc255⟩ := Kd.S_get HO_9.out [] ((rd_T40 t235 x11_2).f1) p255 (by first | exact q255 | exact of_decide_eq_true (by first | (with_reducible assumption) | assumption) | (have e_ := (Kd.S_reads' HO_9.out).1; omega))
                                                          obtain ⟨ve255_0, rfl, ge255_0⟩ := hMe255
                                                          have hv255_0 := hcc255 0 _ rfl
                                                          rw [Nat.add_zero, show ((Kd.slice 3 (Kd.int .i64))).sz = 1 from rfl, Nat.mul_one] at hv255_0
                                                          replace hv255_0 := Option.some.inj (hv255_0.symm.trans hx255_0)
                                                          rw [hv255_0] at ge255_0
                                                          have HL255_0 := Aside0.mk (show Kd.R (Kd.int .i64) 3 _ _ _ _ (rd_L4 t240 ((rd_T40 t235 x11_2).f1)) from ge255_0)
                                                          clear hv255_0 ge255_0
                                                          clear hcc255 hce255
                                                          have HR255_0 := Aside0.mk hi255_0
                                                          have HC255_0 := Aside0.mk hl255_0
                                                          clear hi255_0 hl255_0
                                                          replace p255 := eq_true p255
                                                          replace q255 := eq_true q255
                                                          have ea_ := Option.some.inj (hx250_0.symm.trans hx255_0)
                                                          injection ea_ with ea_ en_ ec_
                                                          subst ea_
                                                          subst ec_
                                                          clear en_
                                                          have p256 : 0 ≤ (x13_5 : Int) := of_decide_eq_true (by first | (with_reducible assumption) | assumption)
                                                          have q256 : x13_5 < ((rd_L4 t240 ((rd_T40 t235 x11_2).f1)).length : Int) := of_decide_eq_true (by first | (with_reducible assumption) | assumption)
                                                          obtain ⟨ad256, e256, hx256_0⟩ := Kd.at_int (by repeat (first | (with_reducible exact HR255_0.out) | (with_reducible refine Kd.C_alloc ?_ _) | (with_reducible refine Kd.C_drewN ?_ _) | (with_reducible refine Kd.C_drew ?_) | exact HR255_0.out)) x13_5 p256 q256
                                                          cases e256
                                                          replace p256 := eq_true p256
                                                          replace q256 := eq_true q256
                                                          have p257 : 0 ≤ (x11_2 : Int) := of_decide_eq_true (by first | (with_reducible assumption) | assumption)
                                                          have q257 : x11_2 < (t235.length : Int) := of_decide_eq_true (by first | (with_reducible assumption) | assumption)
                                                          obtain ⟨ad257, e257, hx257_0, hx257_1, hx257_2, hx257_3, hx257_4⟩ := at_T40 (Kd.R_reads' HO_6.out).2.2 x11_2 p257 q257
                                                          obtain rfl : ad248 = ad257 := (by injection e257)
                                                          replace p257 := eq_true p257
                                                          replace q257 := eq_true q257
                                                          have p258 : 0 ≤ (((rd_T40 t235 x11_2).f1) : Int) := of_decide_eq_true (by first | (with_reducible assumption) | assumption)
                                                          have q258 : ((rd_T40 t235 x11_2).f1) < (t240.length : Int) := of_decide_eq_true (by first | (with_reducible assumption) | assumption)
                                                          obtain ⟨ad258, A258_0, c258_0, e258, hx258_0, hl258_0, hi258_0⟩ := at_L4 (Kd.S_reads' HO_9.out).2.2 ((rd_T40 t235 x11_2).f1) p258 q258
                                                          obtain rfl : ad250 = ad258 := (by injection e258)
                                                          obtain ⟨ce258, hce258, hMe258, hcc258⟩ := Kd.S_get HO_9.out [] ((rd_T40 t235 x11_2).f1) p258 (by first | exact q258 | exact of_decide_eq_true (by first | (with_reducible assumption) | assumption) | (have e_ := (Kd.S_reads' HO_9.out).1; omega))
                                                          obtain ⟨ve258_0, rfl, ge258_0⟩ := hMe258
                                                          have hv258_0 := hcc258 0 _ rfl
                                                          rw [Nat.add_zero, show ((Kd.slice 3 (Kd.int .i64))).sz = 1 from rfl, Nat.mul_one] at hv258_0
                                                          replace hv258_0 := Option.some.inj (hv258_0.symm.trans hx258_0)
                                                          rw [hv258_0] at ge258_0
                                                          have HL258_0 := Aside0.mk (show Kd.R (Kd.int .i64) 3 _ _ _ _ (rd_L4 t240 ((rd_T40 t235 x11_2).f1)) from ge258_0)
                                                          clear hv258_0 ge258_0
                                                          clear hcc258 hce258
                                                          have HR258_0 := Aside0.mk hi258_0
                                                          have HC258_0 := Aside0.mk hl258_0
                                                          clear hi258_0 hl258_0
                                                          replace p258 := eq_true p258
                                                          replace q258 := eq_true q258
                                                          have ea_ := Option.some.inj (hx250_0.symm.trans hx258_0)
                                                          injection ea_ with ea_ en_ ec_
                                                          subst ea_
                                                          subst ec_
                                                          clear en_
                                                          have p259 : 0 ≤ (x13_5 : Int) := of_decide_eq_true (by first | (with_reducible assumption) | assumption)
                                                          have q259 : x13_5 < ((rd_L4 t240 ((rd_T40 t235 x11_2).f1)).length : Int) := of_decide_eq_true (by first | (with_reducible assumption) | assumption)
                                                          obtain ⟨ad259, e259, hx259_0⟩ := Kd.at_int (by repeat (first | (with_reducible exact HR258_0.out) | (with_reducible refine Kd.C_alloc ?_ _) | (with_reducible refine Kd.C_drewN ?_ _) | (with_reducible refine Kd.C_drew ?_) | exact HR258_0.out)) x13_5 p259 q259
                                                          cases e259
                                                          replace p259 := eq_true p259
                                                          replace q259 := eq_true q259
                                                          have p260 : 0 ≤ ((rd (rd_L4 t240 ((rd_T40 t235 x11_2).f1)) x13_5) : Int) := of_decide_eq_true (by first | (with_reducible assumption) | assumption)
                                                          have q260 : (rd (rd_L4 t240 ((rd_T40 t235 x11_2).f1)) x13_5) < (t235.length : Int) := of_decide_eq_true (by first | (with_reducible assumption) | assumption)
                                                          obtain ⟨ad260, e260, hx260_0, hx260_1, hx260_2, hx260_3, hx260_4⟩ := at_T40 (Kd.R_reads' HO_6.out).2.2 (rd (rd_L4 t240 ((rd_T40 t235 x11_2).f1)) x13_5) p260 q260
                                                          obtain rfl : ad248 = ad260 := (by injection e260)
                                                          replace p260 := eq_true p260
                                                          replace q260 := eq_true q260
                                                          have p261 : 0 ≤ (x11_2 : Int) := of_decide_eq_true (by first | (with_reducible assumption) | assumption)
                                                          have q261 : x11_2 < (t235.length : Int) := of_decide_eq_true (by first | (with_reducible assumption) | assumption)
                                                          obtain ⟨ad261, e261, hx261_0, hx261_1, hx261_2, hx261_3, hx261_4⟩ := at_T40 (Kd.R_reads' HO_6.out).2.2 x11_2 p261 q261
                                                          obtain rfl : ad248 = ad261 := (by injection e261)
                                                          replace p261 := eq_true p261
                                                          replace q261 := eq_true q261
                                                          go_wp2
                                                          repeat (go_quiet (fail); try go_wp2)
                                                          go_roundg k5
                                                          case measure => have := HJ10.out; have := HK2.out; have := HJ22.out; have := HJ28.out; have := HK5.out; omega
                                                          case rel => exact ⟨(wrap64 (x13_5 + 1)), (by first | rfl | (simp; done) | (simp [*]; done)), H', ⟨by have := HJ10.out; have := HK2.out; have := HJ22.out; have := HJ28.out; have := HK5.out; omega⟩, ⟨by (with_reducible repeat (first | apply Kd.R_alloc | apply Kd.R_drewN | apply Kd.R_drew)); exact HO_6.out⟩, ⟨by (with_reducible repeat (first | apply Kd.S_alloc | apply Kd.S_drewN | apply Kd.S_drew)); exact HO_9.out⟩, ⟨by repeat (first | (with_reducible first | exact HB.out | apply below_alloc | apply pw_below_drewN | apply below_drew1) | exact HB.out)⟩⟩
                                                      · rw [if_neg c48] at H
                                                        exact absurd H (by simp)
                                                    · rw [if_neg c47] at H
                                                      exact absurd H (by simp)
                                              · rw [if_neg c42] at H
                                                exact absurd H (by simp)
                                            · rw [if_neg c41] at H
                                              exact absurd H (by simp)
                                        · rw [if_neg c38] at H
                                          exact absurd H (by simp)
                                      · rw [if_neg c37] at H
                                        exact absurd H (by simp)
                                    · rw [if_neg c36] at H
                                      have c36b0 : decide (x13_5 < ((rd_T40 t235 x11_2).f2)) = false := decide_eq_false c36
                                      clear c36
                                      have H' := Aside0.mk H
                                      clear H
                                      have p248 : 0 ≤ (x11_2 : Int) := of_decide_eq_true (by first | (with_reducible assumption) | assumption)
                                      have q248 : x11_2 < (t235.length : Int) := of_decide_eq_true (by first | (with_reducible assumption) | assumption)
                                      obtain ⟨ad248, e248, hx248_0, hx248_1, hx248_2, hx248_3, hx248_4⟩ := at_T40 (Kd.R_reads' HO_6.out).2.2 x11_2 p248 q248
                                      cases e248
                                      replace p248 := eq_true p248
                                      replace q248 := eq_true q248
                                      go_wp2
                                      repeat (go_quiet (fail); try go_wp2)
                                      go_roundg k5
                                      case measure => have := HJ10.out; have := HK2.out; have := HJ22.out; have := HJ28.out; have := HK5.out; omega
                                      case rel => exact ⟨(wrap64 (x11_2 + 1)), (by first | rfl | (simp; done) | (simp [*]; done)), H', ⟨by have := HJ10.out; have := HK2.out; have := HJ22.out; have := HJ28.out; have := HK5.out; omega⟩, ⟨by (with_reducible repeat (first | apply Kd.R_alloc | apply Kd.R_drewN | apply Kd.R_drew)); exact HO_6.out⟩, ⟨by (with_reducible repeat (first | apply Kd.S_alloc | apply Kd.S_drewN | apply Kd.S_drew)); exact HO_9.out⟩, ⟨by repeat (first | (with_reducible first | exact HB.out | apply below_alloc | apply pw_below_drewN | apply below_drew1) | exact HB.out)⟩⟩
                                  · rw [if_neg c35] at H
                                    exact absurd H (by simp)
                                · rw [if_neg c34] at H
                                  exact absurd H (by simp)
                  · rw [if_neg c22] at H
                    have c22b0 : decide (x11_2 < (t235.length : Int)) = false := decide_eq_false c22
                    clear c22
                    obtain rfl := Option.some.inj H
                    go_wp2
                    repeat (go_quiet (fail); try go_wp2)
                    go_ret
                    exact ⟨by first | rfl | (simp [errW_none, errW_some] <;> rfl) | (simp only [← hji5]; first | rfl | (simp [errW_none, errW_some] <;> rfl)) | (simp [*, errW_none, errW_some] <;> rfl), by repeat (first | (with_reducible first | exact HB.out | apply below_alloc | apply pw_below_drewN | apply below_drew1) | exact HB.out)⟩
      · rw [if_neg c9] at H
        have c9b0 : (t237 == 0) = false := beq_eq_false_iff_ne.mpr c9
        have c9b1 : (t237 != 0) = true := bne_iff_ne.mpr c9
        obtain rfl := Option.some.inj H
        go_enter Try.func6, Try.ntmps6
        go_wp2_with (first | (go_at_call 15; (with_reducible refine (purflinglaw07_shown.calls k  t230 _ A3.out).mono ?_); rintro e w52 ⟨rfl, hb⟩; have n0_ := Aside0.mk (below_step (by repeat (first | (with_reducible first | exact HB.out | apply below_alloc | apply pw_below_drewN | apply below_drew1) | exact HB.out)) hb); clear HB; have HB := n0_; clear n0_; (try clear hb); (try clear hb2); (try clear hk); (try clear hi)) | (go_at_call 16; (with_reducible refine (purflinglaw07_Cut.calls k _ _ l0 t231 _ ?side1 ?side2 A4.out).mono ?_); (case side1 => repeat (first | exact (Kd.C_below HR0.out HB.out) | (with_reducible refine Kd.C_alloc ?_ _) | (with_reducible refine Kd.C_drewN ?_ _) | (with_reducible refine Kd.C_drew ?_))); (case side2 => exact HC0.out); rintro e w53 ⟨v232, rfl, ho0, hb⟩; have n0_ := Aside0.mk (Kd.S_lower ho0 (below_size (by repeat (first | (with_reducible first | exact HB.out | apply below_alloc | apply pw_below_drewN | apply below_drew1) | exact HB.out)))); have n1_ := Aside0.mk (below_step (by repeat (first | (with_reducible first | exact HB.out | apply below_alloc | apply pw_below_drewN | apply below_drew1) | exact HB.out)) hb); clear HB; have HO233 := n0_; have HB := n1_; clear n0_ n1_; (try clear hb); (try clear hb2); (try clear hk); (try clear hi); (try clear ho0); obtain ⟨i054, hi054, _, hsz54, _⟩ := info_parts info3; obtain ⟨hcut54, hA54, hC54⟩ := print_take_of (P := Try.prog) (Value.int .i64) 0 23 3 .i64 Try.underlying23 hi054 hsz54 A1 c1 l1 (ji5) (of_decide_eq_true (by first | (with_reducible assumption) | assumption)) (of_decide_eq_true (by first | (with_reducible assumption) | assumption)) HC1.out; have HR234 := Aside0.mk (Kd.C_of_reads (h1 := fun _ => rfl) (hA54 _ (Kd.reads_of_C HR1.out))); have HC234 := Aside0.mk hC54; clear hA54 hC54 hi054 hsz54; obtain ⟨Ao55, co55, eo55⟩ := Kd.S_slice HO233.out; subst eo55) | (go_at_call 17; (first | (with_reducible refine (calls_len_purflinglaw07_GridFirst (fun n_ : Nat => #[.slice Ao55 t231.length co55, .slice A1 n_ c1]) (show (l1.take ((ji5) : Int).toNat).length = (ji5).toNat from (by rw [List.length_take]; have h_ : ((ji5) : Int) ≤ (l1.length : Int) := of_decide_eq_true (by first | (with_reducible assumption) | assumption); omega)) (grid_Lay.calls _ _ t231 _ _ (l1.take ((ji5) : Int).toNat) t235 t236 t237 _ ?side1 ?side2 ?side3 ?side4 A8.out)).mono ?_) | (with_reducible refine (grid_Lay.calls _ _ t231 _ _ (l1.take ((ji5) : Int).toNat) t235 t236 t237 _ ?side1 ?side2 ?side3 ?side4 A8.out).mono ?_)); (case side1 => repeat (first | exact (Kd.S_reads' HO233.out).2.2 | (with_reducible refine Kd.C_alloc ?_ _) | (with_reducible refine Kd.C_drewN ?_ _) | (with_reducible refine Kd.C_drew ?_))); (case side2 => exact (Kd.S_reads' HO233.out).2.1); (case side3 => repeat (first | exact (Kd.C_below HR234.out HB.out) | (with_reducible refine Kd.C_alloc ?_ _) | (with_reducible refine Kd.C_drewN ?_ _) | (with_reducible refine Kd.C_drew ?_))); (case side4 => exact HC234.out); rintro e w56 ⟨v238, rfl, ho0, hb⟩; have n0_ := Aside0.mk (Kd.S_below (by (with_reducible repeat (first | apply Kd.S_alloc | apply Kd.S_drewN | apply Kd.S_drew)); exact HO233.out) hb); have n1_ := Aside0.mk (Kd.R_lower ho0 (below_size (by repeat (first | (with_reducible first | exact HB.out | apply below_alloc | apply pw_below_drewN | apply below_drew1) | exact HB.out)))); have n2_ := Aside0.mk (below_step (by repeat (first | (with_reducible first | exact HB.out | apply below_alloc | apply pw_below_drewN | apply below_drew1) | exact HB.out)) hb); clear HO233; clear HB; have HO233 := n0_; have HO239 := n1_; have HB := n2_; clear n0_ n1_ n2_; (try clear hb); (try clear hb2); (try clear hk); (try clear hi); (try clear ho0)))
        repeat (go_quiet (first | (go_at_call 15; (with_reducible refine (purflinglaw07_shown.calls k  t230 _ A3.out).mono ?_); rintro e w52 ⟨rfl, hb⟩; have n0_ := Aside0.mk (below_step (by repeat (first | (with_reducible first | exact HB.out | apply below_alloc | apply pw_below_drewN | apply below_drew1) | exact HB.out)) hb); clear HB; have HB := n0_; clear n0_; (try clear hb); (try clear hb2); (try clear hk); (try clear hi)) | (go_at_call 16; (with_reducible refine (purflinglaw07_Cut.calls k _ _ l0 t231 _ ?side1 ?side2 A4.out).mono ?_); (case side1 => repeat (first | exact (Kd.C_below HR0.out HB.out) | (with_reducible refine Kd.C_alloc ?_ _) | (with_reducible refine Kd.C_drewN ?_ _) | (with_reducible refine Kd.C_drew ?_))); (case side2 => exact HC0.out); rintro e w53 ⟨v232, rfl, ho0, hb⟩; have n0_ := Aside0.mk (Kd.S_lower ho0 (below_size (by repeat (first | (with_reducible first | exact HB.out | apply below_alloc | apply pw_below_drewN | apply below_drew1) | exact HB.out)))); have n1_ := Aside0.mk (below_step (by repeat (first | (with_reducible first | exact HB.out | apply below_alloc | apply pw_below_drewN | apply below_drew1) | exact HB.out)) hb); clear HB; have HO233 := n0_; have HB := n1_; clear n0_ n1_; (try clear hb); (try clear hb2); (try clear hk); (try clear hi); (try clear ho0); obtain ⟨i054, hi054, _, hsz54, _⟩ := info_parts info3; obtain ⟨hcut54, hA54, hC54⟩ := print_take_of (P := Try.prog) (Value.int .i64) 0 23 3 .i64 Try.underlying23 hi054 hsz54 A1 c1 l1 (ji5) (of_decide_eq_true (by first | (with_reducible assumption) | assumption)) (of_decide_eq_true (by first | (with_reducible assumption) | assumption)) HC1.out; have HR234 := Aside0.mk (Kd.C_of_reads (h1 := fun _ => rfl) (hA54 _ (Kd.reads_of_C HR1.out))); have HC234 := Aside0.mk hC54; clear hA54 hC54 hi054 hsz54; obtain ⟨Ao55, co55, eo55⟩ := Kd.S_slice HO233.out; subst eo55) | (go_at_call 17; (first | (with_reducible refine (calls_len_purflinglaw07_GridFirst (fun n_ : Nat => #[.slice Ao55 t231.length co55, .slice A1 n_ c1]) (show (l1.take ((ji5) : Int).toNat).length = (ji5).toNat from (by rw [List.length_take]; have h_ : ((ji5) : Int) ≤ (l1.length : Int) := of_decide_eq_true (by first | (with_reducible assumption) | assumption); omega)) (grid_Lay.calls _ _ t231 _ _ (l1.take ((ji5) : Int).toNat) t235 t236 t237 _ ?side1 ?side2 ?side3 ?side4 A8.out)).mono ?_) | (with_reducible refine (grid_Lay.calls _ _ t231 _ _ (l1.take ((ji5) : Int).toNat) t235 t236 t237 _ ?side1 ?side2 ?side3 ?side4 A8.out).mono ?_)); (case side1 => repeat (first | exact (Kd.S_reads' HO233.out).2.2 | (with_reducible refine Kd.C_alloc ?_ _) | (with_reducible refine Kd.C_drewN ?_ _) | (with_reducible refine Kd.C_drew ?_))); (case side2 => exact (Kd.S_reads' HO233.out).2.1); (case side3 => repeat (first | exact (Kd.C_below HR234.out HB.out) | (with_reducible refine Kd.C_alloc ?_ _) | (with_reducible refine Kd.C_drewN ?_ _) | (with_reducible refine Kd.C_drew ?_))); (case side4 => exact HC234.out); rintro e w56 ⟨v238, rfl, ho0, hb⟩; have n0_ := Aside0.mk (Kd.S_below (by (with_reducible repeat (first | apply Kd.S_alloc | apply Kd.S_drewN | apply Kd.S_drew)); exact HO233.out) hb); have n1_ := Aside0.mk (Kd.R_lower ho0 (below_size (by repeat (first | (with_reducible first | exact HB.out | apply below_alloc | apply pw_below_drewN | apply below_drew1) | exact HB.out)))); have n2_ := Aside0.mk (below_step (by repeat (first | (with_reducible first | exact HB.out | apply below_alloc | apply pw_below_drewN | apply below_drew1) | exact HB.out)) hb); clear HO233; clear HB; have HO233 := n0_; have HO239 := n1_; have HB := n2_; clear n0_ n1_ n2_; (try clear hb); (try clear hb2); (try clear hk); (try clear hi); (try clear ho0))); try go_wp2_with (first | (go_at_call 15; (with_reducible refine (purflinglaw07_shown.calls k  t230 _ A3.out).mono ?_); rintro e w52 ⟨rfl, hb⟩; have n0_ := Aside0.mk (below_step (by repeat (first | (with_reducible first | exact HB.out | apply below_alloc | apply pw_below_drewN | apply below_drew1) | exact HB.out)) hb); clear HB; have HB := n0_; clear n0_; (try clear hb); (try clear hb2); (try clear hk); (try clear hi)) | (go_at_call 16; (with_reducible refine (purflinglaw07_Cut.calls k _ _ l0 t231 _ ?side1 ?side2 A4.out).mono ?_); (case side1 => repeat (first | exact (Kd.C_below HR0.out HB.out) | (with_reducible refine Kd.C_alloc ?_ _) | (with_reducible refine Kd.C_drewN ?_ _) | (with_reducible refine Kd.C_drew ?_))); (case side2 => exact HC0.out); rintro e w53 ⟨v232, rfl, ho0, hb⟩; have n0_ := Aside0.mk (Kd.S_lower ho0 (below_size (by repeat (first | (with_reducible first | exact HB.out | apply below_alloc | apply pw_below_drewN | apply below_drew1) | exact HB.out)))); have n1_ := Aside0.mk (below_step (by repeat (first | (with_reducible first | exact HB.out | apply below_alloc | apply pw_below_drewN | apply below_drew1) | exact HB.out)) hb); clear HB; have HO233 := n0_; have HB := n1_; clear n0_ n1_; (try clear hb); (try clear hb2); (try clear hk); (try clear hi); (try clear ho0); obtain ⟨i054, hi054, _, hsz54, _⟩ := info_parts info3; obtain ⟨hcut54, hA54, hC54⟩ := print_take_of (P := Try.prog) (Value.int .i64) 0 23 3 .i64 Try.underlying23 hi054 hsz54 A1 c1 l1 (ji5) (of_decide_eq_true (by first | (with_reducible assumption) | assumption)) (of_decide_eq_true (by first | (with_reducible assumption) | assumption)) HC1.out; have HR234 := Aside0.mk (Kd.C_of_reads (h1 := fun _ => rfl) (hA54 _ (Kd.reads_of_C HR1.out))); have HC234 := Aside0.mk hC54; clear hA54 hC54 hi054 hsz54; obtain ⟨Ao55, co55, eo55⟩ := Kd.S_slice HO233.out; subst eo55) | (go_at_call 17; (first | (with_reducible refine (calls_len_purflinglaw07_GridFirst (fun n_ : Nat => #[.slice Ao55 t231.length co55, .slice A1 n_ c1]) (show (l1.take ((ji5) : Int).toNat).length = (ji5).toNat from (by rw [List.length_take]; have h_ : ((ji5) : Int) ≤ (l1.length : Int) := of_decide_eq_true (by first | (with_reducible assumption) | assumption); omega)) (grid_Lay.calls _ _ t231 _ _ (l1.take ((ji5) : Int).toNat) t235 t236 t237 _ ?side1 ?side2 ?side3 ?side4 A8.out)).mono ?_) | (with_reducible refine (grid_Lay.calls _ _ t231 _ _ (l1.take ((ji5) : Int).toNat) t235 t236 t237 _ ?side1 ?side2 ?side3 ?side4 A8.out).mono ?_)); (case side1 => repeat (first | exact (Kd.S_reads' HO233.out).2.2 | (with_reducible refine Kd.C_alloc ?_ _) | (with_reducible refine Kd.C_drewN ?_ _) | (with_reducible refine Kd.C_drew ?_))); (case side2 => exact (Kd.S_reads' HO233.out).2.1); (case side3 => repeat (first | exact (Kd.C_below HR234.out HB.out) | (with_reducible refine Kd.C_alloc ?_ _) | (with_reducible refine Kd.C_drewN ?_ _) | (with_reducible refine Kd.C_drew ?_))); (case side4 => exact HC234.out); rintro e w56 ⟨v238, rfl, ho0, hb⟩; have n0_ := Aside0.mk (Kd.S_below (by (with_reducible repeat (first | apply Kd.S_alloc | apply Kd.S_drewN | apply Kd.S_drew)); exact HO233.out) hb); have n1_ := Aside0.mk (Kd.R_lower ho0 (below_size (by repeat (first | (with_reducible first | exact HB.out | apply below_alloc | apply pw_below_drewN | apply below_drew1) | exact HB.out)))); have n2_ := Aside0.mk (below_step (by repeat (first | (with_reducible first | exact HB.out | apply below_alloc | apply pw_below_drewN | apply below_drew1) | exact HB.out)) hb); clear HO233; clear HB; have HO233 := n0_; have HO239 := n1_; have HB := n2_; clear n0_ n1_ n2_; (try clear hb); (try clear hb2); (try clear hk); (try clear hi); (try clear ho0))))
        go_ret
        exact ⟨by first | rfl | (simp [errW_none, errW_some] <;> rfl) | (simp only [← hji5]; first | rfl | (simp [errW_none, errW_some] <;> rfl)) | (simp [*, errW_none, errW_some] <;> rfl), by repeat (first | (with_reducible first | exact HB.out | apply below_alloc | apply pw_below_drewN | apply below_drew1) | exact HB.out)⟩
    · rw [if_neg c7] at H
      exact absurd H (by simp)
  · rw [if_neg c6] at H
    exact absurd H (by simp)

end Go.Proofs.Ytfoocmmjefdojaa.K
