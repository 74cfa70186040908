-- PRINTED by print.py (a twelfth state) out of the translation. Not trusted: Lean checks it.
import Derived.Test.YtdmnaehgngpikaaLaC
import Derived.Test.YtdmnaehgngpikaaLb2
import Derived.Test.YtdmnaehgngpikaaK0
import Derived.Test.YtdmnaehgngpikaaK10
namespace Go.Proofs.Ytdmnaehgngpikaa.K
open Go.RowKit Go.Proofs.YtdmnaehgngpikaaW.PrintWords Go.Proofs.YtdmnaehgngpikaaW.PrintLast Go.Proofs.YtdmnaehgngpikaaW.PrintMore
attribute [local go_sem] max2_int min2_int max_two min_two max_three min_three max_four min_four   -- for this text's walks alone
set_option linter.unusedVariables false
set_option linter.unusedSimpArgs false
/-! ### purflinglaw06_LanesOnce: function 4 -/
mutual
def purflinglaw06_LanesOnce.l0 : Nat → List (S48) → Int → Bool → List (S35) → List Int → Int → Option (Bool)
 | 0, _, _, _, _, _, _ => none
 | k + 1, x0, x1, x5, x6, x8, x9 => if x9 < (x6.length : Int) then (if 0 ≤ x9 then (if ((rd_T35 x6 x9).f0) < 0 then (some false) else (if ((rd_T35 x6 x9).f0) ≥ (x0.length : Int) then (some false) else (if 0 ≤ ((rd_T35 x6 x9).f0) then (if ((rd_T35 x6 x9).f0) < (x0.length : Int) then (if ((rd_T48 x0 ((rd_T35 x6 x9).f0)).f0) = 9 then (if ((rd_T35 x6 x9).f1) < (-1) then (some false) else (if ((rd_T35 x6 x9).f1) ≥ (x0.length : Int) then (some false) else (if ((rd_T35 x6 x9).f0) < (x8.length : Int) then (purflinglaw06_LanesOnce.l0 k x0 x1 x5 x6 (x8.set (((rd_T35 x6 x9).f0) : Int).toNat (wrap64 ((rd x8 ((rd_T35 x6 x9).f0)) + 1))) (wrap64 (x9 + 1))) else (none)))) else (some false)) else (none)) else (none)))) else (none)) else (purflinglaw06_LanesOnce.l1 k x0 x1 x5 x6 x8 0 0)
def purflinglaw06_LanesOnce.l1 : Nat → List (S48) → Int → Bool → List (S35) → List Int → Int → Int → Option (Bool)
 | 0, _, _, _, _, _, _, _ => none
 | k + 1, x0, x1, x5, x6, x8, x12, x13 => if 0 ≤ x1 then (if x1 < (x0.length : Int) then (if x13 < (((rd_T48 x0 x1).f1).length : Int) then (if 0 ≤ x13 then (if 0 ≤ (rd ((rd_T48 x0 x1).f1) x13) then (if (rd ((rd_T48 x0 x1).f1) x13) < (x0.length : Int) then (if ((rd_T48 x0 (rd ((rd_T48 x0 x1).f1) x13)).f0) = 9 then (purflinglaw06_LanesOnce.j2 k x0 x1 x5 x6 x8 (wrap64 (x12 + 1)) x13 (rd ((rd_T48 x0 x1).f1) x13)) else (purflinglaw06_LanesOnce.j2 k x0 x1 x5 x6 x8 x12 x13 (rd ((rd_T48 x0 x1).f1) x13))) else (none)) else (none)) else (none)) else (purflinglaw06_LanesOnce.l3 k x0 x5 x6 x8 x12 0)) else (none)) else (none)
def purflinglaw06_LanesOnce.j2 : Nat → List (S48) → Int → Bool → List (S35) → List Int → Int → Int → Int → Option (Bool)
 | 0, _, _, _, _, _, _, _, _ => none
 | k + 1, x0, x1, x5, x6, x8, x12, x13, x14 => purflinglaw06_LanesOnce.l2 k x0 x1 x5 x6 x8 x12 x13 x14 0
def purflinglaw06_LanesOnce.l2 : Nat → List (S48) → Int → Bool → List (S35) → List Int → Int → Int → Int → Int → Option (Bool)
 | 0, _, _, _, _, _, _, _, _, _ => none
 | k + 1, x0, x1, x5, x6, x8, x12, x13, x14, x15 => if 0 ≤ x14 then (if x14 < (x0.length : Int) then (if x15 < (((rd_T48 x0 x14).f1).length : Int) then (if ((rd_T48 x0 x14).f0) ≥ 6 then (purflinglaw06_LanesOnce.j4 k x0 x1 x5 x6 x8 x12 x13 x14 x15 (decide (((rd_T48 x0 x14).f0) ≤ 8))) else (purflinglaw06_LanesOnce.j4 k x0 x1 x5 x6 x8 x12 x13 x14 x15 false)) else (purflinglaw06_LanesOnce.j4 k x0 x1 x5 x6 x8 x12 x13 x14 x15 false)) else (none)) else (none)
def purflinglaw06_LanesOnce.j4 : Nat → List (S48) → Int → Bool → List (S35) → List Int → Int → Int → Int → Int → Bool → Option (Bool)
 | 0, _, _, _, _, _, _, _, _, _, _ => none
 | k + 1, x0, x1, x5, x6, x8, x12, x13, x14, x15, x129 => if x129 = true then (if 0 ≤ x14 then (if x14 < (x0.length : Int) then (if 0 ≤ x15 then (if x15 < (((rd_T48 x0 x14).f1).length : Int) then (if 0 ≤ (rd ((rd_T48 x0 x14).f1) x15) then (if (rd ((rd_T48 x0 x14).f1) x15) < (x0.length : Int) then (if ((rd_T48 x0 (rd ((rd_T48 x0 x14).f1) x15)).f0) = 9 then (purflinglaw06_LanesOnce.l2 k x0 x1 x5 x6 x8 (wrap64 (x12 + 1)) x13 x14 (wrap64 (x15 + 1))) else (purflinglaw06_LanesOnce.l2 k x0 x1 x5 x6 x8 x12 x13 x14 (wrap64 (x15 + 1)))) else (none)) else (none)) else (none)) else (none)) else (none)) else (none)) else (purflinglaw06_LanesOnce.l1 k x0 x1 x5 x6 x8 x12 (wrap64 (x13 + 1)))
def purflinglaw06_LanesOnce.l3 : Nat → List (S48) → Bool → List (S35) → List Int → Int → Int → Option (Bool)
 | 0, _, _, _, _, _, _ => none
 | k + 1, x0, x5, x6, x8, x12, x16 => if x16 < (x0.length : Int) then (if 0 ≤ x16 then (if x16 < (x8.length : Int) then (if (rd x8 x16) > 1 then (some false) else (purflinglaw06_LanesOnce.l3 k x0 x5 x6 x8 x12 (wrap64 (x16 + 1)))) else (none)) else (none)) else (if x5 = true then (some ((x6.length : Int) == x12)) else (some false))
end
def purflinglaw06_LanesOnce.f (k : Nat) (l0 : List (S48)) (a1 : Int) : Option (Bool) := (purflinglaw06_shown.f).bind fun t311 => ((purflinglaw04_Cut.f k l0).bind fun t312 => ((lanes_Rows.f t312 a1).bind fun bt315 => (if bt315.2 = 0 then (if 0 ≤ (t312.length : Int) then (if ((t312.length : Int) : Int).toNat ≤ 35184372088832 then (purflinglaw06_LanesOnce.l0 k t312 a1 t311 bt315.1 (List.replicate ((t312.length : Int) : Int).toNat 0) 0) else (none)) else (none)) else (some t311))))
theorem purflinglaw06_LanesOnce.mono_l : ∀ k, (∀ y0 y1 y2 y3 y4 y5, LeO (purflinglaw06_LanesOnce.l0 k y0 y1 y2 y3 y4 y5) (purflinglaw06_LanesOnce.l0 (k + 1) y0 y1 y2 y3 y4 y5)) ∧ (∀ y0 y1 y2 y3 y4 y5 y6, LeO (purflinglaw06_LanesOnce.l1 k y0 y1 y2 y3 y4 y5 y6) (purflinglaw06_LanesOnce.l1 (k + 1) y0 y1 y2 y3 y4 y5 y6)) ∧ (∀ y0 y1 y2 y3 y4 y5 y6 y7, LeO (purflinglaw06_LanesOnce.j2 k y0 y1 y2 y3 y4 y5 y6 y7) (purflinglaw06_LanesOnce.j2 (k + 1) y0 y1 y2 y3 y4 y5 y6 y7)) ∧ (∀ y0 y1 y2 y3 y4 y5 y6 y7 y8, LeO (purflinglaw06_LanesOnce.l2 k y0 y1 y2 y3 y4 y5 y6 y7 y8) (purflinglaw06_LanesOnce.l2 (k + 1) y0 y1 y2 y3 y4 y5 y6 y7 y8)) ∧ (∀ y0 y1 y2 y3 y4 y5 y6 y7 y8 y9, LeO (purflinglaw06_LanesOnce.j4 k y0 y1 y2 y3 y4 y5 y6 y7 y8 y9) (purflinglaw06_LanesOnce.j4 (k + 1) y0 y1 y2 y3 y4 y5 y6 y7 y8 y9)) ∧ (∀ y0 y1 y2 y3 y4 y5, LeO (purflinglaw06_LanesOnce.l3 k y0 y1 y2 y3 y4 y5) (purflinglaw06_LanesOnce.l3 (k + 1) y0 y1 y2 y3 y4 y5))
 | 0 => ⟨fun _ _ _ _ _ _ r h => by simp [purflinglaw06_LanesOnce.l0] at h, fun _ _ _ _ _ _ _ r h => by simp [purflinglaw06_LanesOnce.l1] at h, fun _ _ _ _ _ _ _ _ r h => by simp [purflinglaw06_LanesOnce.j2] at h, fun _ _ _ _ _ _ _ _ _ r h => by simp [purflinglaw06_LanesOnce.l2] at h, fun _ _ _ _ _ _ _ _ _ _ r h => by simp [purflinglaw06_LanesOnce.j4] at h, fun _ _ _ _ _ _ r h => by simp [purflinglaw06_LanesOnce.l3] at h⟩
 | k + 1 => by
  obtain ⟨ih0, ih1, ih2, ih3, ih4, ih5⟩ := purflinglaw06_LanesOnce.mono_l k
  refine ⟨?_, ?_, ?_, ?_, ?_, ?_⟩
  · intro y0 y1 y2 y3 y4 y5
    unfold purflinglaw06_LanesOnce.l0
    repeat' first
    | (with_reducible exact ih0 _ _ _ _ _ _)
    | (with_reducible exact ih1 _ _ _ _ _ _ _)
    | (with_reducible exact ih2 _ _ _ _ _ _ _ _)
    | (with_reducible exact ih3 _ _ _ _ _ _ _ _ _)
    | (with_reducible exact ih4 _ _ _ _ _ _ _ _ _ _)
    | (with_reducible exact ih5 _ _ _ _ _ _)
    | (with_reducible exact purflinglaw04_Cut.mono _ _)
    | (with_reducible exact LeO.refl _)
    | (with_reducible exact LeO.none _)
    | (with_reducible refine LeO.ite ?_ ?_)
    | (with_reducible refine LeO.bind ?_ (fun _ => ?_))
    | exact ih0 _ _ _ _ _ _
    | exact ih1 _ _ _ _ _ _ _
    | exact ih2 _ _ _ _ _ _ _ _
    | exact ih3 _ _ _ _ _ _ _ _ _
    | exact ih4 _ _ _ _ _ _ _ _ _ _
    | exact ih5 _ _ _ _ _ _
    | exact purflinglaw04_Cut.mono _ _
    | exact LeO.none _
    | refine LeO.ite ?_ ?_
    | refine LeO.bind ?_ (fun _ => ?_)
  · intro y0 y1 y2 y3 y4 y5 y6
    unfold purflinglaw06_LanesOnce.l1
    repeat' first
    | (with_reducible exact ih0 _ _ _ _ _ _)
    | (with_reducible exact ih1 _ _ _ _ _ _ _)
    | (with_reducible exact ih2 _ _ _ _ _ _ _ _)
    | (with_reducible exact ih3 _ _ _ _ _ _ _ _ _)
    | (with_reducible exact ih4 _ _ _ _ _ _ _ _ _ _)
    | (with_reducible exact ih5 _ _ _ _ _ _)
    | (with_reducible exact purflinglaw04_Cut.mono _ _)
    | (with_reducible exact LeO.refl _)
    | (with_reducible exact LeO.none _)
    | (with_reducible refine LeO.ite ?_ ?_)
    | (with_reducible refine LeO.bind ?_ (fun _ => ?_))
    | exact ih0 _ _ _ _ _ _
    | exact ih1 _ _ _ _ _ _ _
    | exact ih2 _ _ _ _ _ _ _ _
    | exact ih3 _ _ _ _ _ _ _ _ _
    | exact ih4 _ _ _ _ _ _ _ _ _ _
    | exact ih5 _ _ _ _ _ _
    | exact purflinglaw04_Cut.mono _ _
    | exact LeO.none _
    | refine LeO.ite ?_ ?_
    | refine LeO.bind ?_ (fun _ => ?_)
  · intro y0 y1 y2 y3 y4 y5 y6 y7
    unfold purflinglaw06_LanesOnce.j2
    repeat' first
    | (with_reducible exact ih0 _ _ _ _ _ _)
    | (with_reducible exact ih1 _ _ _ _ _ _ _)
    | (with_reducible exact ih2 _ _ _ _ _ _ _ _)
    | (with_reducible exact ih3 _ _ _ _ _ _ _ _ _)
    | (with_reducible exact ih4 _ _ _ _ _ _ _ _ _ _)
    | (with_reducible exact ih5 _ _ _ _ _ _)
    | (with_reducible exact purflinglaw04_Cut.mono _ _)
    | (with_reducible exact LeO.refl _)
    | (with_reducible exact LeO.none _)
    | (with_reducible refine LeO.ite ?_ ?_)
    | (with_reducible refine LeO.bind ?_ (fun _ => ?_))
    | exact ih0 _ _ _ _ _ _
    | exact ih1 _ _ _ _ _ _ _
    | exact ih2 _ _ _ _ _ _ _ _
    | exact ih3 _ _ _ _ _ _ _ _ _
    | exact ih4 _ _ _ _ _ _ _ _ _ _
    | exact ih5 _ _ _ _ _ _
    | exact purflinglaw04_Cut.mono _ _
    | exact LeO.none _
    | refine LeO.ite ?_ ?_
    | refine LeO.bind ?_ (fun _ => ?_)
  · intro y0 y1 y2 y3 y4 y5 y6 y7 y8
    unfold purflinglaw06_LanesOnce.l2
    repeat' first
    | (with_reducible exact ih0 _ _ _ _ _ _)
    | (with_reducible exact ih1 _ _ _ _ _ _ _)
    | (with_reducible exact ih2 _ _ _ _ _ _ _ _)
    | (with_reducible exact ih3 _ _ _ _ _ _ _ _ _)
    | (with_reducible exact ih4 _ _ _ _ _ _ _ _ _ _)
    | (with_reducible exact ih5 _ _ _ _ _ _)
    | (with_reducible exact purflinglaw04_Cut.mono _ _)
    | (with_reducible exact LeO.refl _)
    | (with_reducible exact LeO.none _)
    | (with_reducible refine LeO.ite ?_ ?_)
    | (with_reducible refine LeO.bind ?_ (fun _ => ?_))
    | exact ih0 _ _ _ _ _ _
    | exact ih1 _ _ _ _ _ _ _
    | exact ih2 _ _ _ _ _ _ _ _
    | exact ih3 _ _ _ _ _ _ _ _ _
    | exact ih4 _ _ _ _ _ _ _ _ _ _
    | exact ih5 _ _ _ _ _ _
    | exact purflinglaw04_Cut.mono _ _
    | exact LeO.none _
    | refine LeO.ite ?_ ?_
    | refine LeO.bind ?_ (fun _ => ?_)
  · intro y0 y1 y2 y3 y4 y5 y6 y7 y8 y9
    unfold purflinglaw06_LanesOnce.j4
    repeat' first
    | (with_reducible exact ih0 _ _ _ _ _ _)
    | (with_reducible exact ih1 _ _ _ _ _ _ _)
    | (with_reducible exact ih2 _ _ _ _ _ _ _ _)
    | (with_reducible exact ih3 _ _ _ _ _ _ _ _ _)
    | (with_reducible exact ih4 _ _ _ _ _ _ _ _ _ _)
    | (with_reducible exact ih5 _ _ _ _ _ _)
    | (with_reducible exact purflinglaw04_Cut.mono _ _)
    | (with_reducible exact LeO.refl _)
    | (with_reducible exact LeO.none _)
    | (with_reducible refine LeO.ite ?_ ?_)
    | (with_reducible refine LeO.bind ?_ (fun _ => ?_))
    | exact ih0 _ _ _ _ _ _
    | exact ih1 _ _ _ _ _ _ _
    | exact ih2 _ _ _ _ _ _ _ _
    | exact ih3 _ _ _ _ _ _ _ _ _
    | exact ih4 _ _ _ _ _ _ _ _ _ _
    | exact ih5 _ _ _ _ _ _
    | exact purflinglaw04_Cut.mono _ _
    | exact LeO.none _
    | refine LeO.ite ?_ ?_
    | refine LeO.bind ?_ (fun _ => ?_)
  · intro y0 y1 y2 y3 y4 y5
    unfold purflinglaw06_LanesOnce.l3
    repeat' first
    | (with_reducible exact ih0 _ _ _ _ _ _)
    | (with_reducible exact ih1 _ _ _ _ _ _ _)
    | (with_reducible exact ih2 _ _ _ _ _ _ _ _)
    | (with_reducible exact ih3 _ _ _ _ _ _ _ _ _)
    | (with_reducible exact ih4 _ _ _ _ _ _ _ _ _ _)
    | (with_reducible exact ih5 _ _ _ _ _ _)
    | (with_reducible exact purflinglaw04_Cut.mono _ _)
    | (with_reducible exact LeO.refl _)
    | (with_reducible exact LeO.none _)
    | (with_reducible refine LeO.ite ?_ ?_)
    | (with_reducible refine LeO.bind ?_ (fun _ => ?_))
    | exact ih0 _ _ _ _ _ _
    | exact ih1 _ _ _ _ _ _ _
    | exact ih2 _ _ _ _ _ _ _ _
    | exact ih3 _ _ _ _ _ _ _ _ _
    | exact ih4 _ _ _ _ _ _ _ _ _ _
    | exact ih5 _ _ _ _ _ _
    | exact purflinglaw04_Cut.mono _ _
    | exact LeO.none _
    | refine LeO.ite ?_ ?_
    | refine LeO.bind ?_ (fun _ => ?_)
theorem purflinglaw06_LanesOnce.mono : ∀ a0 a1 k, LeO (purflinglaw06_LanesOnce.f k a0 a1) (purflinglaw06_LanesOnce.f (k + 1) a0 a1) := by
 intro a0 a1 k
 obtain ⟨ih0, ih1, ih2, ih3, ih4, ih5⟩ := purflinglaw06_LanesOnce.mono_l k
 unfold purflinglaw06_LanesOnce.f
 repeat' first
  | (with_reducible exact ih0 _ _ _ _ _ _)
  | (with_reducible exact ih1 _ _ _ _ _ _ _)
  | (with_reducible exact ih2 _ _ _ _ _ _ _ _)
  | (with_reducible exact ih3 _ _ _ _ _ _ _ _ _)
  | (with_reducible exact ih4 _ _ _ _ _ _ _ _ _ _)
  | (with_reducible exact ih5 _ _ _ _ _ _)
  | (with_reducible exact purflinglaw04_Cut.mono _ _)
  | (with_reducible exact LeO.refl _)
  | (with_reducible exact LeO.none _)
  | (with_reducible refine LeO.ite ?_ ?_)
  | (with_reducible refine LeO.bind ?_ (fun _ => ?_))
  | exact ih0 _ _ _ _ _ _
  | exact ih1 _ _ _ _ _ _ _
  | exact ih2 _ _ _ _ _ _ _ _
  | exact ih3 _ _ _ _ _ _ _ _ _
  | exact ih4 _ _ _ _ _ _ _ _ _ _
  | exact ih5 _ _ _ _ _ _
  | exact purflinglaw04_Cut.mono _ _
  | exact LeO.none _
  | refine LeO.ite ?_ ?_
  | refine LeO.bind ?_ (fun _ => ?_)
set_option maxHeartbeats 8000000 in
set_option maxRecDepth 100000 in
theorem purflinglaw06_LanesOnce.calls (k : Nat) (A0 : Option Addr) (c0 : Nat) (l0 : List (S48)) (a1 : Int) (r : Bool) (w : World) (hr0 : Kd.C k48 w A0 l0.length l0) (hc0 : l0.length ≤ c0) (h : purflinglaw06_LanesOnce.f k l0 a1 = some r) :
 Calls Try.prog 4 #[.slice A0 l0.length c0, .int .i64 a1] w fun e w' => e = .returned (.bool r) ∧ Below w.heap.size w w' := by
 have HR0 := Aside0.mk hr0
 have HC0 := Aside0.mk hc0
 clear hr0 hc0
 have HB := Aside0.mk (Below.refl w.heap.size w)
 have H : ((purflinglaw06_shown.f).bind fun t311 => ((purflinglaw04_Cut.f k l0).bind fun t312 => ((lanes_Rows.f t312 a1).bind fun bt315 => (if bt315.2 = 0 then (if 0 ≤ (t312.length : Int) then (if ((t312.length : Int) : Int).toNat ≤ 35184372088832 then (purflinglaw06_LanesOnce.l0 k t312 a1 t311 bt315.1 (List.replicate ((t312.length : Int) : Int).toNat 0) 0) else (none)) else (none)) else (some t311))))) = some r := h
 clear h
 replace H := Option.bind_eq_some_iff.mp H
 obtain ⟨t311, A30, H⟩ := H
 replace H : ((purflinglaw04_Cut.f k l0).bind fun t312 => ((lanes_Rows.f t312 a1).bind fun bt315 => (if bt315.2 = 0 then (if 0 ≤ (t312.length : Int) then (if ((t312.length : Int) : Int).toNat ≤ 35184372088832 then (purflinglaw06_LanesOnce.l0 k t312 a1 t311 bt315.1 (List.replicate ((t312.length : Int) : Int).toNat 0) 0) else (none)) else (none)) else (some t311)))) = some r := H
 have A3 := Aside0.mk A30
 clear A30
 replace H := Option.bind_eq_some_iff.mp H
 obtain ⟨t312, A40, H⟩ := H
 replace H : ((lanes_Rows.f t312 a1).bind fun bt315 => (if bt315.2 = 0 then (if 0 ≤ (t312.length : Int) then (if ((t312.length : Int) : Int).toNat ≤ 35184372088832 then (purflinglaw06_LanesOnce.l0 k t312 a1 t311 bt315.1 (List.replicate ((t312.length : Int) : Int).toNat 0) 0) else (none)) else (none)) else (some t311))) = some r := H
 have A4 := Aside0.mk A40
 clear A40
 replace H := Option.bind_eq_some_iff.mp H
 obtain ⟨⟨t315, t316⟩, A50, H⟩ := H
 replace H : (if t316 = 0 then (if 0 ≤ (t312.length : Int) then (if ((t312.length : Int) : Int).toNat ≤ 35184372088832 then (purflinglaw06_LanesOnce.l0 k t312 a1 t311 t315 (List.replicate ((t312.length : Int) : Int).toNat 0) 0) else (none)) else (none)) else (some t311)) = some r := H
 have A5 := Aside0.mk A50
 clear A50
 by_cases c6 : t316 = 0
 · rw [if_pos c6] at H
   have c6b0 : (t316 == 0) = true := beq_iff_eq.mpr c6
   have c6b1 : (t316 != 0) = false := bne_eq_false_iff_eq.mpr c6
   clear c6
   by_cases c7 : 0 ≤ (t312.length : Int)
   · rw [if_pos c7] at H
     have c7b0 := eq_true c7
     have c7b1 : decide (0 ≤ (t312.length : Int)) = true := decide_eq_true c7
     clear c7
     by_cases c8 : ((t312.length : Int) : Int).toNat ≤ 35184372088832
     · rw [if_pos c8] at H
       have c8b0 := eq_true c8
       have c8b1 : decide (((t312.length : Int) : Int).toNat ≤ 35184372088832) = true := decide_eq_true c8
       clear c8
       obtain ⟨y319, hy319⟩ : ∃ y_ : List Int, y_ = (List.replicate ((t312.length : Int) : Int).toNat 0) := ⟨_, rfl⟩
       replace H : (purflinglaw06_LanesOnce.l0 k t312 a1 t311 t315 y319 0) = some r := by first | (rw [hy319]; with_reducible exact H) | (have H2_ := (Option.bind_some _ _).symm.trans H; rw [hy319]; with_reducible exact H2_) | (have H2_ := (Option.bind_some _ _).symm.trans H; with_reducible exact H2_) | with_reducible exact H | (rw [hy319]; exact H) | exact H
       have Ny319 := Aside0.mk hy319
       clear hy319
       have H' := Aside0.mk H
       clear H
       go_enter Try.func4, Try.ntmps4
       go_wp2_with (first | ((with_reducible refine gate_callee (f := 10) rfl ?_); refine goesL_ (some 17) rfl rfl Try.func10 (by kernel_rfl) rfl #[] rfl (by (try simp only [List.map_toArray, List.map_cons, List.map_nil]); first | done | rfl | (simp only [List.length_drop, List.length_take]; rfl)) ?_; (with_reducible refine (purflinglaw06_shown.calls  t311 _ A3.out).mono ?_); rintro e w9 ⟨rfl, hb⟩; refine ⟨_, rfl, ?_⟩; have n0_ := Aside0.mk (below_step (by repeat (first | (with_reducible first | exact HB.out | apply below_alloc | apply pw_below_drewN | apply below_drew1) | exact HB.out)) hb); clear HB; have HB := n0_; clear n0_; (try clear hb); (try clear hb2); (try clear hk); (try clear hi)) | ((with_reducible refine gate_callee (f := 11) rfl ?_); refine goesL_ (some 19) rfl rfl Try.func11 (by kernel_rfl) rfl #[.slice A0 l0.length c0] rfl (by (try simp only [List.map_toArray, List.map_cons, List.map_nil]); first | done | rfl | (simp only [List.length_drop, List.length_take]; rfl)) ?_; (with_reducible refine (purflinglaw04_Cut.calls k (fun k_ => k_ < w.heap.size) _ _ l0 t312 _ ?side1 A4.out).mono ?_); (case side1 => exact Kd.V_mk HC0.out (Kd.F_below (Kd.C_F k48_heap HR0.out) (by repeat (first | (with_reducible first | exact HB.out | apply below_alloc | apply pw_below_drewN | apply below_drew1) | exact HB.out)))); rintro e w10 ⟨v313, rfl, ho0, hb⟩; refine ⟨_, rfl, ?_⟩; have n0_ := Aside0.mk (Kd.N_lower (Kd.N_mono (ok' := fun k_ => True) ho0 (fun k_ hk_ => trivial)) (below_size (by repeat (first | (with_reducible first | exact HB.out | apply below_alloc | apply pw_below_drewN | apply below_drew1) | exact HB.out)))); have n1_ := Aside0.mk (below_step (by repeat (first | (with_reducible first | exact HB.out | apply below_alloc | apply pw_below_drewN | apply below_drew1) | exact HB.out)) hb); clear HB; have HO314 := n0_; have HB := n1_; clear n0_ n1_; (try clear hb); (try clear hb2); (try clear hk); (try clear hi); (try clear ho0); obtain ⟨Ao11, co11, eo11⟩ := Kd.N_slice HO314.out; subst eo11) | ((with_reducible refine gate_callee (f := 16) rfl ?_); refine goesL_ (some 23) rfl rfl Try.func16 (by kernel_rfl) rfl #[.slice Ao11 t312.length co11, .int .i64 a1] rfl (by (try simp only [List.map_toArray, List.map_cons, List.map_nil]); first | done | rfl | (simp only [List.length_drop, List.length_take]; rfl)) ?_; (with_reducible refine (lanes_Rows.calls _ _ t312 a1 t315 t316 _ ?side1 ?side2 A5.out).mono ?_); (case side1 => repeat (first | exact (Kd.N_reads' HO314.out).2.2 | (with_reducible refine Kd.C_alloc ?_ _) | (with_reducible refine Kd.C_drewN ?_ _) | (with_reducible refine Kd.C_drew ?_))); (case side2 => exact (Kd.N_reads' HO314.out).2.1); rintro e w12 ⟨v317, rfl, ho0, hb⟩; refine ⟨_, rfl, ?_⟩; have n0_ := Aside0.mk (Kd.N_elder' (by (with_reducible repeat (first | apply Kd.N_alloc | apply Kd.N_drewN | apply Kd.N_drew)); exact HO314.out) (Kd.R_base ho0) hb); have n1_ := Aside0.mk (Kd.R_lower ho0 (below_size (by repeat (first | (with_reducible first | exact HB.out | apply below_alloc | apply pw_below_drewN | apply below_drew1) | exact HB.out)))); have n2_ := Aside0.mk (below_step (by repeat (first | (with_reducible first | exact HB.out | apply below_alloc | apply pw_below_drewN | apply below_drew1) | exact HB.out)) hb); clear HO314; clear HB; have HO314 := n0_; have HO318 := n1_; have HB := n2_; clear n0_ n1_ n2_; (try clear hb); (try clear hb2); (try clear hk); (try clear hi); (try clear ho0)) | ((with_reducible refine gate_dst (N := 31) rfl ?_); (try (refine gate_guard (by rfl) ?_; dsimp only)); refine Kd.R_make (Kd.int .i64) _ 3 rfl (N := 31) rfl 33 _ _ rfl (t312.length : Int) rfl rfl Try.underlying33 (.int .i64 0) 8 info3 rfl (by decide) (by omega) 0 (ok := fun _ => True) (okp := fun _ => True) rfl (fun _ hk => hk) trivial (of_decide_eq_true (by first | (with_reducible assumption) | assumption)) (Nat.le_trans (Nat.mul_le_mul_right _ (of_decide_eq_true (by first | (with_reducible assumption) | assumption) : (t312.length : Int).toNat ≤ 35184372088832)) (by omega)) (Below.refl _ _) (Nat.le_refl _) ?_; intro v320 w13 ho14 hb hg_ hnew_; clear hg_ hnew_; (first | rw [← Ny319.out] at ho14 | (simp only [Int.reduceToNat] at ho14; rw [← Ny319.out] at ho14)); have n0_ := Aside0.mk (Kd.N_elder' (by (with_reducible repeat (first | apply Kd.N_alloc | apply Kd.N_drewN | apply Kd.N_drew)); exact HO314.out) (Kd.R_base ho14) hb); have n1_ := Aside0.mk (Kd.R_below (by (with_reducible repeat (first | apply Kd.R_alloc | apply Kd.R_drewN | apply Kd.R_drew)); exact HO318.out) hb); have n2_ := Aside0.mk (Kd.R_lower ho14 (below_size (by repeat (first | (with_reducible first | exact HB.out | apply below_alloc | apply pw_below_drewN | apply below_drew1) | exact HB.out)))); have n3_ := Aside0.mk (below_step (by repeat (first | (with_reducible first | exact HB.out | apply below_alloc | apply pw_below_drewN | apply below_drew1) | exact HB.out)) hb); clear HO314; clear HO318; clear HB; have HO314 := n0_; have HO318 := n1_; have HO321 := n2_; have HB := n3_; clear n0_ n1_ n2_ n3_; clear hb ho14))
       go_loopg [9] k (fun kq v9 w' => ∃ (x8_1 : List Int) (x9_1 : Int), v9 = .int .i64 x9_1 ∧ Aside0 (purflinglaw06_LanesOnce.l0 kq t312 a1 t311 t315 x8_1 x9_1 = some r) ∧ Aside0 (kq ≤ k) ∧ Aside0 (Kd.N k48 48 w' w.heap.size (fun k_ => some k_ ≠ (v317 : Value).ownBlock ∧ some k_ ≠ (v320 : Value).ownBlock) (.slice Ao11 t312.length co11) t312) ∧ Aside0 (Kd.R k35 35 w' w.heap.size (fun _ => True) v317 t315) ∧ Aside0 (Kd.R (Kd.int .i64) 3 w' w.heap.size (fun _ => True) v320 x8_1) ∧ Aside0 (Below w.heap.size w w'))
       case atStart => exact ⟨(y319), (0), (by first | rfl | (simp; done) | (simp [*]; done)), H', ⟨Nat.le_refl _⟩, ⟨by (with_reducible repeat (first | apply Kd.N_alloc | apply Kd.N_drewN | apply Kd.N_drew)); exact Kd.N_mono HO314.out (fun _ hk => ⟨hk.1.2, hk.2⟩)⟩, ⟨by (with_reducible repeat (first | apply Kd.R_alloc | apply Kd.R_drewN | apply Kd.R_drew)); exact HO318.out⟩, ⟨by (with_reducible repeat (first | apply Kd.R_alloc | apply Kd.R_drewN | apply Kd.R_drew)); exact HO321.out⟩, ⟨by repeat (first | (with_reducible first | exact HB.out | apply below_alloc | apply pw_below_drewN | apply below_drew1) | exact HB.out)⟩⟩
       case round =>
        clear H'
        try clear c1
        try clear p2
        try clear c4
        try clear c6
        try clear c6b0
        try clear c6b1
        try clear c7
        try clear c7b0
        try clear c7b1
        try clear c8
        try clear c8b0
        try clear c8b1
        try clear c10
        try clear c11
        obtain ⟨x8_1, x9_1, rfl, HA, HK1, HO_0, HO_6, HO_8, HB⟩ := hrel
        cases gk with
        | zero => exact absurd HA.out (by simp [purflinglaw06_LanesOnce.l0])
        | succ k1 =>
         have H := HA.out
         clear HA
         simp only [purflinglaw06_LanesOnce.l0] at H
         by_cases c15 : x9_1 < (t315.length : Int)
         · rw [if_pos c15] at H
           have c15b0 : decide (x9_1 < (t315.length : Int)) = true := decide_eq_true c15
           clear c15
           by_cases c16 : 0 ≤ x9_1
           · rw [if_pos c16] at H
             have c16b0 : decide (0 ≤ x9_1) = true := decide_eq_true c16
             clear c16
             by_cases c17 : ((rd_T35 t315 x9_1).f0) < 0
             · rw [if_pos c17] at H
               have c17b0 : decide (((rd_T35 t315 x9_1).f0) < 0) = true := decide_eq_true c17
               clear c17
               obtain rfl := Option.some.inj H
               obtain ⟨Ao18, co18, eo18⟩ := Kd.R_slice HO_6.out
               subst eo18
               have p322 : 0 ≤ (x9_1 : Int) := of_decide_eq_true (by first | (with_reducible assumption) | assumption)
               have q322 : x9_1 < (t315.length : Int) := of_decide_eq_true (by first | (with_reducible assumption) | assumption)
               obtain ⟨ad322, e322, hx322_0, hx322_1⟩ := at_T35 (Kd.R_reads' HO_6.out).2.2 x9_1 p322 q322
               cases e322
               replace p322 := eq_true p322
               replace q322 := eq_true q322
               have p323 : 0 ≤ (x9_1 : Int) := of_decide_eq_true (by first | (with_reducible assumption) | assumption)
               have q323 : x9_1 < (t315.length : Int) := of_decide_eq_true (by first | (with_reducible assumption) | assumption)
               obtain ⟨ad323, e323, hx323_0, hx323_1⟩ := at_T35 (Kd.R_reads' HO_6.out).2.2 x9_1 p323 q323
               obtain rfl : ad322 = ad323 := (by injection e323)
               replace p323 := eq_true p323
               replace q323 := eq_true q323
               go_wp2
               go_ret
               exact ⟨by first | rfl | (simp [errW_none, errW_some] <;> rfl) | (simp [*, errW_none, errW_some] <;> rfl), by repeat (first | (with_reducible first | exact HB.out | apply below_alloc | apply pw_below_drewN | apply below_drew1) | exact HB.out)⟩
             · rw [if_neg c17] at H
               have c17b0 : decide (((rd_T35 t315 x9_1).f0) < 0) = false := decide_eq_false c17
               clear c17
               by_cases c19 : ((rd_T35 t315 x9_1).f0) ≥ (t312.length : Int)
               · rw [if_pos c19] at H
                 have c19b0 : decide ((t312.length : Int) ≤ ((rd_T35 t315 x9_1).f0)) = true := decide_eq_true c19
                 clear c19
                 obtain rfl := Option.some.inj H
                 obtain ⟨Ao20, co20, eo20⟩ := Kd.R_slice HO_6.out
                 subst eo20
                 have p322 : 0 ≤ (x9_1 : Int) := of_decide_eq_true (by first | (with_reducible assumption) | assumption)
                 have q322 : x9_1 < (t315.length : Int) := of_decide_eq_true (by first | (with_reducible assumption) | assumption)
                 obtain ⟨ad322, e322, hx322_0, hx322_1⟩ := at_T35 (Kd.R_reads' HO_6.out).2.2 x9_1 p322 q322
                 cases e322
                 replace p322 := eq_true p322
                 replace q322 := eq_true q322
                 have p323 : 0 ≤ (x9_1 : Int) := of_decide_eq_true (by first | (with_reducible assumption) | assumption)
                 have q323 : x9_1 < (t315.length : Int) := of_decide_eq_true (by first | (with_reducible assumption) | assumption)
                 obtain ⟨ad323, e323, hx323_0, hx323_1⟩ := at_T35 (Kd.R_reads' HO_6.out).2.2 x9_1 p323 q323
                 obtain rfl : ad322 = ad323 := (by injection e323)
                 replace p323 := eq_true p323
                 replace q323 := eq_true q323
                 go_wp2
                 go_ret
                 exact ⟨by first | rfl | (simp [errW_none, errW_some] <;> rfl) | (simp [*, errW_none, errW_some] <;> rfl), by repeat (first | (with_reducible first | exact HB.out | apply below_alloc | apply pw_below_drewN | apply below_drew1) | exact HB.out)⟩
               · rw [if_neg c19] at H
                 have c19b0 : decide ((t312.length : Int) ≤ ((rd_T35 t315 x9_1).f0)) = false := decide_eq_false c19
                 clear c19
                 by_cases c21 : 0 ≤ ((rd_T35 t315 x9_1).f0)
                 · rw [if_pos c21] at H
                   have c21b0 : decide (0 ≤ ((rd_T35 t315 x9_1).f0)) = true := decide_eq_true c21
                   clear c21
                   by_cases c22 : ((rd_T35 t315 x9_1).f0) < (t312.length : Int)
                   · rw [if_pos c22] at H
                     have c22b0 : decide (((rd_T35 t315 x9_1).f0) < (t312.length : Int)) = true := decide_eq_true c22
                     clear c22
                     by_cases c23 : ((rd_T48 t312 ((rd_T35 t315 x9_1).f0)).f0) = 9
                     · rw [if_pos c23] at H
                       have c23b0 : (((rd_T48 t312 ((rd_T35 t315 x9_1).f0)).f0) == 9) = true := beq_iff_eq.mpr c23
                       have c23b1 : (((rd_T48 t312 ((rd_T35 t315 x9_1).f0)).f0) != 9) = false := bne_eq_false_iff_eq.mpr c23
                       clear c23
                       by_cases c24 : ((rd_T35 t315 x9_1).f1) < (-1)
                       · rw [if_pos c24] at H
                         have c24b0 : decide (((rd_T35 t315 x9_1).f1) < (-1)) = true := decide_eq_true c24
                         clear c24
                         obtain rfl := Option.some.inj H
                         obtain ⟨Ao25, co25, eo25⟩ := Kd.R_slice HO_6.out
                         subst eo25
                         have p322 : 0 ≤ (x9_1 : Int) := of_decide_eq_true (by first | (with_reducible assumption) | assumption)
                         have q322 : x9_1 < (t315.length : Int) := of_decide_eq_true (by first | (with_reducible assumption) | assumption)
                         obtain ⟨ad322, e322, hx322_0, hx322_1⟩ := at_T35 (Kd.R_reads' HO_6.out).2.2 x9_1 p322 q322
                         cases e322
                         replace p322 := eq_true p322
                         replace q322 := eq_true q322
                         have p323 : 0 ≤ (x9_1 : Int) := of_decide_eq_true (by first | (with_reducible assumption) | assumption)
                         have q323 : x9_1 < (t315.length : Int) := of_decide_eq_true (by first | (with_reducible assumption) | assumption)
                         obtain ⟨ad323, e323, hx323_0, hx323_1⟩ := at_T35 (Kd.R_reads' HO_6.out).2.2 x9_1 p323 q323
                         obtain rfl : ad322 = ad323 := (by injection e323)
                         replace p323 := eq_true p323
                         replace q323 := eq_true q323
                         have p324 : 0 ≤ (((rd_T35 t315 x9_1).f0) : Int) := of_decide_eq_true (by first | (with_reducible assumption) | assumption)
                         have q324 : ((rd_T35 t315 x9_1).f0) < (t312.length : Int) := of_decide_eq_true (by first | (with_reducible assumption) | assumption)
                         obtain ⟨ad324, A324_1, c324_1, A324_31, c324_31, e324, hx324_0, hx324_1, hx324_2, hx324_3, hx324_4, hx324_5, hx324_6, hx324_7, hx324_8, hx324_9, hx324_10, hx324_11, hx324_12, hx324_13, hx324_14, hx324_15, hx324_16, hx324_17, hx324_18, hx324_19, hx324_20, hx324_21, hx324_22, hx324_23, hx324_24, hx324_25, hx324_26, hx324_27, hx324_28, hx324_29, hx324_30, hx324_31, hx324_32, hx324_33, hl324_1, hi324_1, hl324_31, hi324_31⟩ := at_T48 (Kd.N_reads' HO_0.out).2.2 ((rd_T35 t315 x9_1).f0) p324 q324
                         cases e324
                         obtain ⟨ce324, hce324, hMe324, hcc324⟩ := Kd.N_get HO_0.out z48 ((rd_T35 t315 x9_1).f0) p324 (by first | exact q324 | exact of_decide_eq_true (by first | (with_reducible assumption) | assumption) | (have e_ := (Kd.N_reads' HO_0.out).1; omega))
                         obtain ⟨ua324_1, uc324_1, ua324_31, uc324_31, rfl, ul324_1, ge324_1, ul324_31, ge324_31⟩ := k48_openF hMe324
                         have hv324_1 := hcc324 1 _ rfl
                         rw [add_field _ _ 1 (by omega)] at hv324_1
                         replace hv324_1 := Option.some.inj (hv324_1.symm.trans hx324_1)
                         injection hv324_1 with hva_ hvn_ hvc_
                         rw [hva_] at ge324_1
                         rw [hvc_] at ul324_1
                         have HL324_1 := Aside0.mk (show Kd.V (Kd.int .i64) 3 _ w.heap.size _ _ ((rd_T48 t312 ((rd_T35 t315 x9_1).f0)).f1) from Kd.V_mk ul324_1 ge324_1)
                         clear hva_ hvn_ hvc_ ge324_1 ul324_1
                         have hv324_31 := hcc324 31 _ rfl
                         rw [add_field _ _ 31 (by omega)] at hv324_31
                         replace hv324_31 := Option.some.inj (hv324_31.symm.trans hx324_31)
                         injection hv324_31 with hva_ hvn_ hvc_
                         rw [hva_] at ge324_31
                         rw [hvc_] at ul324_31
                         have HL324_31 := Aside0.mk (show Kd.V (Kd.int .i64) 2 _ w.heap.size _ _ ((rd_T48 t312 ((rd_T35 t315 x9_1).f0)).f3) from Kd.V_mk ul324_31 ge324_31)
                         clear hva_ hvn_ hvc_ ge324_31 ul324_31
                         clear hcc324 hce324
                         have HR324_1 := Aside0.mk hi324_1
                         have HC324_1 := Aside0.mk hl324_1
                         clear hi324_1 hl324_1
                         have HR324_31 := Aside0.mk hi324_31
                         have HC324_31 := Aside0.mk hl324_31
                         clear hi324_31 hl324_31
                         replace p324 := eq_true p324
                         replace q324 := eq_true q324
                         go_wp2
                         go_ret
                         exact ⟨by first | rfl | (simp [errW_none, errW_some] <;> rfl) | (simp [*, errW_none, errW_some] <;> rfl), by repeat (first | (with_reducible first | exact HB.out | apply below_alloc | apply pw_below_drewN | apply below_drew1) | exact HB.out)⟩
                       · rw [if_neg c24] at H
                         have c24b0 : decide (((rd_T35 t315 x9_1).f1) < (-1)) = false := decide_eq_false c24
                         clear c24
                         by_cases c26 : ((rd_T35 t315 x9_1).f1) ≥ (t312.length : Int)
                         · rw [if_pos c26] at H
                           have c26b0 : decide ((t312.length : Int) ≤ ((rd_T35 t315 x9_1).f1)) = true := decide_eq_true c26
                           clear c26
                           obtain rfl := Option.some.inj H
                           obtain ⟨Ao27, co27, eo27⟩ := Kd.R_slice HO_6.out
                           subst eo27
                           have p322 : 0 ≤ (x9_1 : Int) := of_decide_eq_true (by first | (with_reducible assumption) | assumption)
                           have q322 : x9_1 < (t315.length : Int) := of_decide_eq_true (by first | (with_reducible assumption) | assumption)
                           obtain ⟨ad322, e322, hx322_0, hx322_1⟩ := at_T35 (Kd.R_reads' HO_6.out).2.2 x9_1 p322 q322
                           cases e322
                           replace p322 := eq_true p322
                           replace q322 := eq_true q322
                           have p323 : 0 ≤ (x9_1 : Int) := of_decide_eq_true (by first | (with_reducible assumption) | assumption)
                           have q323 : x9_1 < (t315.length : Int) := of_decide_eq_true (by first | (with_reducible assumption) | assumption)
                           obtain ⟨ad323, e323, hx323_0, hx323_1⟩ := at_T35 (Kd.R_reads' HO_6.out).2.2 x9_1 p323 q323
                           obtain rfl : ad322 = ad323 := (by injection e323)
                           replace p323 := eq_true p323
                           replace q323 := eq_true q323
                           have p324 : 0 ≤ (((rd_T35 t315 x9_1).f0) : Int) := of_decide_eq_true (by first | (with_reducible assumption) | assumption)
                           have q324 : ((rd_T35 t315 x9_1).f0) < (t312.length : Int) := of_decide_eq_true (by first | (with_reducible assumption) | assumption)
                           obtain ⟨ad324, A324_1, c324_1, A324_31, c324_31, e324, hx324_0, hx324_1, hx324_2, hx324_3, hx324_4, hx324_5, hx324_6, hx324_7, hx324_8, hx324_9, hx324_10, hx324_11, hx324_12, hx324_13, hx324_14, hx324_15, hx324_16, hx324_17, hx324_18, hx324_19, hx324_20, hx324_21, hx324_22, hx324_23, hx324_24, hx324_25, hx324_26, hx324_27, hx324_28, hx324_29, hx324_30, hx324_31, hx324_32, hx324_33, hl324_1, hi324_1, hl324_31, hi324_31⟩ := at_T48 (Kd.N_reads' HO_0.out).2.2 ((rd_T35 t315 x9_1).f0) p324 q324
                           cases e324
                           obtain ⟨ce324, hce324, hMe324, hcc324⟩ := Kd.N_get HO_0.out z48 ((rd_T35 t315 x9_1).f0) p324 (by first | exact q324 | exact of_decide_eq_true (by first | (with_reducible assumption) | assumption) | (have e_ := (Kd.N_reads' HO_0.out).1; omega))
                           obtain ⟨ua324_1, uc324_1, ua324_31, uc324_31, rfl, ul324_1, ge324_1, ul324_31, ge324_31⟩ := k48_openF hMe324
                           have hv324_1 := hcc324 1 _ rfl
                           rw [add_field _ _ 1 (by omega)] at hv324_1
                           replace hv324_1 := Option.some.inj (hv324_1.symm.trans hx324_1)
                           injection hv324_1 with hva_ hvn_ hvc_
                           rw [hva_] at ge324_1
                           rw [hvc_] at ul324_1
                           have HL324_1 := Aside0.mk (show Kd.V (Kd.int .i64) 3 _ w.heap.size _ _ ((rd_T48 t312 ((rd_T35 t315 x9_1).f0)).f1) from Kd.V_mk ul324_1 ge324_1)
                           clear hva_ hvn_ hvc_ ge324_1 ul324_1
                           have hv324_31 := hcc324 31 _ rfl
                           rw [add_field _ _ 31 (by omega)] at hv324_31
                           replace hv324_31 := Option.some.inj (hv324_31.symm.trans hx324_31)
                           injection hv324_31 with hva_ hvn_ hvc_
                           rw [hva_] at ge324_31
                           rw [hvc_] at ul324_31
                           have HL324_31 := Aside0.mk (show Kd.V (Kd.int .i64) 2 _ w.heap.size _ _ ((rd_T48 t312 ((rd_T35 t315 x9_1).f0)).f3) from Kd.V_mk ul324_31 ge324_31)
                           clear hva_ hvn_ hvc_ ge324_31 ul324_31
                           clear hcc324 hce324
                           have HR324_1 := Aside0.mk hi324_1
                           have HC324_1 := Aside0.mk hl324_1
                           clear hi324_1 hl324_1
                           have HR324_31 := Aside0.mk hi324_31
                           have HC324_31 := Aside0.mk hl324_31
                           clear hi324_31 hl324_31
                           replace p324 := eq_true p324
                           replace q324 := eq_true q324
                           go_wp2
                           go_ret
                           exact ⟨by first | rfl | (simp [errW_none, errW_some] <;> rfl) | (simp [*, errW_none, errW_some] <;> rfl), by repeat (first | (with_reducible first | exact HB.out | apply below_alloc | apply pw_below_drewN | apply below_drew1) | exact HB.out)⟩
                         · rw [if_neg c26] at H
                           have c26b0 : decide ((t312.length : Int) ≤ ((rd_T35 t315 x9_1).f1)) = false := decide_eq_false c26
                           clear c26
                           by_cases c28 : ((rd_T35 t315 x9_1).f0) < (x8_1.length : Int)
                           · rw [if_pos c28] at H
                             have c28b0 : decide (((rd_T35 t315 x9_1).f0) < (x8_1.length : Int)) = true := decide_eq_true c28
                             clear c28
                             obtain ⟨y326, hy326⟩ : ∃ y_ : List Int, y_ = (x8_1.set (((rd_T35 t315 x9_1).f0) : Int).toNat (wrap64 ((rd x8_1 ((rd_T35 t315 x9_1).f0)) + 1))) := ⟨_, rfl⟩
                             replace H : (purflinglaw06_LanesOnce.l0 k1 t312 a1 t311 t315 y326 (wrap64 (x9_1 + 1))) = some r := by first | (rw [hy326]; with_reducible exact H) | (have H2_ := (Option.bind_some _ _).symm.trans H; rw [hy326]; with_reducible exact H2_) | (have H2_ := (Option.bind_some _ _).symm.trans H; with_reducible exact H2_) | with_reducible exact H | (rw [hy326]; exact H) | exact H
                             have Ny326 := Aside0.mk hy326
                             clear hy326
                             have H' := Aside0.mk H
                             clear H
                             obtain ⟨Ao30, co30, eo30⟩ := Kd.R_slice HO_6.out
                             subst eo30
                             have p322 : 0 ≤ (x9_1 : Int) := of_decide_eq_true (by first | (with_reducible assumption) | assumption)
                             have q322 : x9_1 < (t315.length : Int) := of_decide_eq_true (by first | (with_reducible assumption) | assumption)
                             obtain ⟨ad322, e322, hx322_0, hx322_1⟩ := at_T35 (Kd.R_reads' HO_6.out).2.2 x9_1 p322 q322
                             cases e322
                             replace p322 := eq_true p322
                             replace q322 := eq_true q322
                             have p323 : 0 ≤ (x9_1 : Int) := of_decide_eq_true (by first | (with_reducible assumption) | assumption)
                             have q323 : x9_1 < (t315.length : Int) := of_decide_eq_true (by first | (with_reducible assumption) | assumption)
                             obtain ⟨ad323, e323, hx323_0, hx323_1⟩ := at_T35 (Kd.R_reads' HO_6.out).2.2 x9_1 p323 q323
                             obtain rfl : ad322 = ad323 := (by injection e323)
                             replace p323 := eq_true p323
                             replace q323 := eq_true q323
                             have p324 : 0 ≤ (((rd_T35 t315 x9_1).f0) : Int) := of_decide_eq_true (by first | (with_reducible assumption) | assumption)
                             have q324 : ((rd_T35 t315 x9_1).f0) < (t312.length : Int) := of_decide_eq_true (by first | (with_reducible assumption) | assumption)
                             obtain ⟨ad324, A324_1, c324_1, A324_31, c324_31, e324, hx324_0, hx324_1, hx324_2, hx324_3, hx324_4, hx324_5, hx324_6, hx324_7, hx324_8, hx324_9, hx324_10, hx324_11, hx324_12, hx324_13, hx324_14, hx324_15, hx324_16, hx324_17, hx324_18, hx324_19, hx324_20, hx324_21, hx324_22, hx324_23, hx324_24, hx324_25, hx324_26, hx324_27, hx324_28, hx324_29, hx324_30, hx324_31, hx324_32, hx324_33, hl324_1, hi324_1, hl324_31, hi324_31⟩ := at_T48 (Kd.N_reads' HO_0.out).2.2 ((rd_T35 t315 x9_1).f0) p324 q324
                             cases e324
                             obtain ⟨ce324, hce324, hMe324, hcc324⟩ := Kd.N_get HO_0.out z48 ((rd_T35 t315 x9_1).f0) p324 (by first | exact q324 | exact of_decide_eq_true (by first | (with_reducible assumption) | assumption) | (have e_ := (Kd.N_reads' HO_0.out).1; omega))
                             obtain ⟨ua324_1, uc324_1, ua324_31, uc324_31, rfl, ul324_1, ge324_1, ul324_31, ge324_31⟩ := k48_openF hMe324
                             have hv324_1 := hcc324 1 _ rfl
                             rw [add_field _ _ 1 (by omega)] at hv324_1
                             replace hv324_1 := Option.some.inj (hv324_1.symm.trans hx324_1)
                             injection hv324_1 with hva_ hvn_ hvc_
                             rw [hva_] at ge324_1
                             rw [hvc_] at ul324_1
                             have HL324_1 := Aside0.mk (show Kd.V (Kd.int .i64) 3 _ w.heap.size _ _ ((rd_T48 t312 ((rd_T35 t315 x9_1).f0)).f1) from Kd.V_mk ul324_1 ge324_1)
                             clear hva_ hvn_ hvc_ ge324_1 ul324_1
                             have hv324_31 := hcc324 31 _ rfl
                             rw [add_field _ _ 31 (by omega)] at hv324_31
                             replace hv324_31 := Option.some.inj (hv324_31.symm.trans hx324_31)
                             injection hv324_31 with hva_ hvn_ hvc_
                             rw [hva_] at ge324_31
                             rw [hvc_] at ul324_31
                             have HL324_31 := Aside0.mk (show Kd.V (Kd.int .i64) 2 _ w.heap.size _ _ ((rd_T48 t312 ((rd_T35 t315 x9_1).f0)).f3) from Kd.V_mk ul324_31 ge324_31)
                             clear hva_ hvn_ hvc_ ge324_31 ul324_31
                             clear hcc324 hce324
                             have HR324_1 := Aside0.mk hi324_1
                             have HC324_1 := Aside0.mk hl324_1
                             clear hi324_1 hl324_1
                             have HR324_31 := Aside0.mk hi324_31
                             have HC324_31 := Aside0.mk hl324_31
                             clear hi324_31 hl324_31
                             replace p324 := eq_true p324
                             replace q324 := eq_true q324
                             obtain ⟨Ao31, co31, eo31⟩ := Kd.R_slice HO_8.out
                             subst eo31
                             have p325 : 0 ≤ (((rd_T35 t315 x9_1).f0) : Int) := of_decide_eq_true (by first | (with_reducible assumption) | assumption)
                             have q325 : ((rd_T35 t315 x9_1).f0) < (x8_1.length : Int) := of_decide_eq_true (by first | (with_reducible assumption) | assumption)
                             obtain ⟨ad325, e325, hx325_0⟩ := Kd.at_int (Kd.R_reads' HO_8.out).2.2 ((rd_T35 t315 x9_1).f0) p325 q325
                             cases e325
                             replace p325 := eq_true p325
                             replace q325 := eq_true q325
                             have p29 : 0 ≤ (((rd_T35 t315 x9_1).f0) : Int) := of_decide_eq_true (by first | (with_reducible assumption) | assumption)
                             have q29 : (((rd_T35 t315 x9_1).f0) : Int) < ((x8_1.length : Int) : Int) := of_decide_eq_true (by first | (with_reducible assumption) | assumption)
                             obtain ⟨go29, co29, eo29, gb29, gl29, cl29, HG29⟩ := Kd.R_form HO_8.out (by omega)
                             (first | cases eo29 | (injection eo29 with ea_ en_ ec_; (first | subst ea_ | (injection ea_ with ea_; subst ea_)); subst ec_; clear en_))
                             have GB29 := Aside0.mk gb29
                             have GG29 := Aside0.mk HG29
                             clear gb29 gl29 HG29
                             (first | simp only [add_plain] at hx325_0 | skip)
                             obtain ⟨hx29_0, hf29_0⟩ := Kd.R_celln 0 HO_8.out (((rd_T35 t315 x9_1).f0) : Int) p29 q29
                             replace p29 := eq_true p29
                             replace q29 := eq_true q29
                             have HP32 := Kd.R_putg HO_8.out (((rd_T35 t315 x9_1).f0) : Int) (wrap64 ((rd x8_1 ((rd_T35 t315 x9_1).f0)) + 1))
                             go_wp2_with (first | ((with_reducible refine gate_store (t := 3) (p := 79) rfl ?_); refine store_event (t := 3) (p := 79) (v := ?vo_w33) (w1 := (wr.setCell ⟨go29, (((rd_T35 t315 x9_1).f0) : Int).toNat, none⟩ (.int .i64 (wrap64 ((rd x8_1 ((rd_T35 t315 x9_1).f0)) + 1))))) ?hg ?ho ?hn ?hr ?_; (case ho => rfl); (case hg => rfl); (case hn => rfl); (case hr => first | (go_simp; done) | (go_simp; rfl)); intro w33 hw; have hg : wr.grownBy w33 (some go29) := (by rw [hw]; exact HP32.2); have hp_ : Kd.R (Kd.int .i64) 3 w33 w.heap.size (fun _ => True) (.slice (some ⟨go29, 0, none⟩) x8_1.length co31) y326 := (by rw [hw, Ny326.out]; exact HP32.1); clear HP32; have n0_ := Aside0.mk (Kd.N_afterv (v := (.slice (some ⟨go29, 0, none⟩) x8_1.length co31)) (v1 := (.slice (some ⟨go29, 0, none⟩) x8_1.length co31)) (ok := (fun k_ => some k_ ≠ (.slice (some ad322) t315.length co30 : Value).ownBlock)) (by (with_reducible repeat (first | apply Kd.N_alloc | apply Kd.N_drewN | apply Kd.N_drew)); exact HO_0.out) hg (.inl rfl)); have n1_ := Aside0.mk (Kd.R_over' (v := (.slice (some ⟨go29, 0, none⟩) x8_1.length co31)) (by (with_reducible repeat (first | apply Kd.R_alloc | apply Kd.R_drewN | apply Kd.R_drew)); exact HO_6.out) (Kd.R_typed HO_8.out) (by decide) hg); have n2_ := Aside0.mk (hp_); have n3_ := Aside0.mk (Kd.V_afterv (v := (.slice (some ⟨go29, 0, none⟩) x8_1.length co31)) (v1 := (.slice (some ⟨go29, 0, none⟩) x8_1.length co31)) (ok := (fun k_ => some k_ ≠ (.slice (some ad324) t312.length co11 : Value).ownBlock ∧ some k_ ≠ (.slice (some ad322) t315.length co30 : Value).ownBlock)) (by (with_reducible repeat (first | apply Kd.V_alloc | apply Kd.V_drewN | apply Kd.V_drew)); exact Kd.V_mono HL324_1.out (fun _ hk => ⟨⟨hk.2, hk.1.1⟩, hk.1.2⟩)) hg (.inl rfl)); have n4_ := Aside0.mk (Kd.V_afterv (v := (.slice (some ⟨go29, 0, none⟩) x8_1.length co31)) (v1 := (.slice (some ⟨go29, 0, none⟩) x8_1.length co31)) (ok := (fun k_ => some k_ ≠ (.slice (some ad324) t312.length co11 : Value).ownBlock ∧ some k_ ≠ (.slice (some ad322) t315.length co30 : Value).ownBlock)) (by (with_reducible repeat (first | apply Kd.V_alloc | apply Kd.V_drewN | apply Kd.V_drew)); exact Kd.V_mono HL324_31.out (fun _ hk => ⟨⟨hk.2, hk.1.1⟩, hk.1.2⟩)) hg (.inl rfl)); have n5_ := Aside0.mk ((by rw [hw]; exact below_set (HB.out) GB29.out : Below w.heap.size w w33)); clear HO_0; clear HO_6; clear HO_8; clear HL324_1; clear HL324_31; clear HB; have HO_0 := n0_; have HO_6 := n1_; have HO_8 := n2_; have HL324_1 := n3_; have HL324_31 := n4_; have HB := n5_; clear n0_ n1_ n2_ n3_ n4_ n5_; clear hg hw hp_))
                             go_roundg k1
                             case measure => have := HK1.out; omega
                             case rel => exact ⟨(y326), (wrap64 (x9_1 + 1)), (by first | rfl | (simp; done) | (simp [*]; done)), H', ⟨by have := HK1.out; omega⟩, ⟨by (with_reducible repeat (first | apply Kd.N_alloc | apply Kd.N_drewN | apply Kd.N_drew)); exact HO_0.out⟩, ⟨by (with_reducible repeat (first | apply Kd.R_alloc | apply Kd.R_drewN | apply Kd.R_drew)); exact HO_6.out⟩, ⟨by (with_reducible repeat (first | apply Kd.R_alloc | apply Kd.R_drewN | apply Kd.R_drew)); exact HO_8.out⟩, ⟨by repeat (first | (with_reducible first | exact HB.out | apply below_alloc | apply pw_below_drewN | apply below_drew1) | exact HB.out)⟩⟩
                           · rw [if_neg c28] at H
                             exact absurd H (by simp)
                     · rw [if_neg c23] at H
                       have c23b0 : (((rd_T48 t312 ((rd_T35 t315 x9_1).f0)).f0) == 9) = false := beq_eq_false_iff_ne.mpr c23
                       have c23b1 : (((rd_T48 t312 ((rd_T35 t315 x9_1).f0)).f0) != 9) = true := bne_iff_ne.mpr c23
                       obtain rfl := Option.some.inj H
                       obtain ⟨Ao34, co34, eo34⟩ := Kd.R_slice HO_6.out
                       subst eo34
                       have p322 : 0 ≤ (x9_1 : Int) := of_decide_eq_true (by first | (with_reducible assumption) | assumption)
                       have q322 : x9_1 < (t315.length : Int) := of_decide_eq_true (by first | (with_reducible assumption) | assumption)
                       obtain ⟨ad322, e322, hx322_0, hx322_1⟩ := at_T35 (Kd.R_reads' HO_6.out).2.2 x9_1 p322 q322
                       cases e322
                       replace p322 := eq_true p322
                       replace q322 := eq_true q322
                       have p323 : 0 ≤ (x9_1 : Int) := of_decide_eq_true (by first | (with_reducible assumption) | assumption)
                       have q323 : x9_1 < (t315.length : Int) := of_decide_eq_true (by first | (with_reducible assumption) | assumption)
                       obtain ⟨ad323, e323, hx323_0, hx323_1⟩ := at_T35 (Kd.R_reads' HO_6.out).2.2 x9_1 p323 q323
                       obtain rfl : ad322 = ad323 := (by injection e323)
                       replace p323 := eq_true p323
                       replace q323 := eq_true q323
                       have p324 : 0 ≤ (((rd_T35 t315 x9_1).f0) : Int) := of_decide_eq_true (by first | (with_reducible assumption) | assumption)
                       have q324 : ((rd_T35 t315 x9_1).f0) < (t312.length : Int) := of_decide_eq_true (by first | (with_reducible assumption) | assumption)
                       obtain ⟨ad324, A324_1, c324_1, A324_31, c324_31, e324, hx324_0, hx324_1, hx324_2, hx324_3, hx324_4, hx324_5, hx324_6, hx324_7, hx324_8, hx324_9, hx324_10, hx324_11, hx324_12, hx324_13, hx324_14, hx324_15, hx324_16, hx324_17, hx324_18, hx324_19, hx324_20, hx324_21, hx324_22, hx324_23, hx324_24, hx324_25, hx324_26, hx324_27, hx324_28, hx324_29, hx324_30, hx324_31, hx324_32, hx324_33, hl324_1, hi324_1, hl324_31, hi324_31⟩ := at_T48 (Kd.N_reads' HO_0.out).2.2 ((rd_T35 t315 x9_1).f0) p324 q324
                       cases e324
                       obtain ⟨ce324, hce324, hMe324, hcc324⟩ := Kd.N_get HO_0.out z48 ((rd_T35 t315 x9_1).f0) p324 (by first | exact q324 | exact of_decide_eq_true (by first | (with_reducible assumption) | assumption) | (have e_ := (Kd.N_reads' HO_0.out).1; omega))
                       obtain ⟨ua324_1, uc324_1, ua324_31, uc324_31, rfl, ul324_1, ge324_1, ul324_31, ge324_31⟩ := k48_openF hMe324
                       have hv324_1 := hcc324 1 _ rfl
                       rw [add_field _ _ 1 (by omega)] at hv324_1
                       replace hv324_1 := Option.some.inj (hv324_1.symm.trans hx324_1)
                       injection hv324_1 with hva_ hvn_ hvc_
                       rw [hva_] at ge324_1
                       rw [hvc_] at ul324_1
                       have HL324_1 := Aside0.mk (show Kd.V (Kd.int .i64) 3 _ w.heap.size _ _ ((rd_T48 t312 ((rd_T35 t315 x9_1).f0)).f1) from Kd.V_mk ul324_1 ge324_1)
                       clear hva_ hvn_ hvc_ ge324_1 ul324_1
                       have hv324_31 := hcc324 31 _ rfl
                       rw [add_field _ _ 31 (by omega)] at hv324_31
                       replace hv324_31 := Option.some.inj (hv324_31.symm.trans hx324_31)
                       injection hv324_31 with hva_ hvn_ hvc_
                       rw [hva_] at ge324_31
                       rw [hvc_] at ul324_31
                       have HL324_31 := Aside0.mk (show Kd.V (Kd.int .i64) 2 _ w.heap.size _ _ ((rd_T48 t312 ((rd_T35 t315 x9_1).f0)).f3) from Kd.V_mk ul324_31 ge324_31)
                       clear hva_ hvn_ hvc_ ge324_31 ul324_31
                       clear hcc324 hce324
                       have HR324_1 := Aside0.mk hi324_1
                       have HC324_1 := Aside0.mk hl324_1
                       clear hi324_1 hl324_1
                       have HR324_31 := Aside0.mk hi324_31
                       have HC324_31 := Aside0.mk hl324_31
                       clear hi324_31 hl324_31
                       replace p324 := eq_true p324
                       replace q324 := eq_true q324
                       go_wp2
                       go_ret
                       exact ⟨by first | rfl | (simp [errW_none, errW_some] <;> rfl) | (simp [*, errW_none, errW_some] <;> rfl), by repeat (first | (with_reducible first | exact HB.out | apply below_alloc | apply pw_below_drewN | apply below_drew1) | exact HB.out)⟩
                   · rw [if_neg c22] at H
                     exact absurd H (by simp)
                 · rw [if_neg c21] at H
                   exact absurd H (by simp)
           · rw [if_neg c16] at H
             exact absurd H (by simp)
         · rw [if_neg c15] at H
           have c15b0 : decide (x9_1 < (t315.length : Int)) = false := decide_eq_false c15
           clear c15
           have H' := Aside0.mk H
           clear H
           obtain ⟨Ao35, co35, eo35⟩ := Kd.R_slice HO_6.out
           subst eo35
           go_wp2
           go_loopg [12, 13] k1 (fun kq v12 v13 w' => ∃ (x12_2 : Int) (x13_2 : Int), v12 = .int .i64 x12_2 ∧ v13 = .int .i64 x13_2 ∧ Aside0 (purflinglaw06_LanesOnce.l1 kq t312 a1 t311 t315 x8_1 x12_2 x13_2 = some r) ∧ Aside0 (kq ≤ k1) ∧ Aside0 (Kd.N k48 48 w' w.heap.size (fun k_ => some k_ ≠ ((.slice Ao35 t315.length co35) : Value).ownBlock ∧ some k_ ≠ (v320 : Value).ownBlock) (.slice Ao11 t312.length co11) t312) ∧ Aside0 (Kd.R k35 35 w' w.heap.size (fun _ => True) (.slice Ao35 t315.length co35) t315) ∧ Aside0 (Kd.R (Kd.int .i64) 3 w' w.heap.size (fun _ => True) v320 x8_1) ∧ Aside0 (Below w.heap.size w w'))
           case atStart => exact ⟨(0), (0), (by first | rfl | (simp; done) | (simp [*]; done)), (by first | rfl | (simp; done) | (simp [*]; done)), H', ⟨Nat.le_refl _⟩, ⟨by (with_reducible repeat (first | apply Kd.N_alloc | apply Kd.N_drewN | apply Kd.N_drew)); exact HO_0.out⟩, ⟨by (with_reducible repeat (first | apply Kd.R_alloc | apply Kd.R_drewN | apply Kd.R_drew)); exact HO_6.out⟩, ⟨by (with_reducible repeat (first | apply Kd.R_alloc | apply Kd.R_drewN | apply Kd.R_drew)); exact HO_8.out⟩, ⟨by repeat (first | (with_reducible first | exact HB.out | apply below_alloc | apply pw_below_drewN | apply below_drew1) | exact HB.out)⟩⟩
           case round =>
            clear H'
            try clear c1
            try clear c2
            try clear p2
            try clear q2
            try clear hx2
            try clear hf2
            try clear c3
            try clear p3
            try clear q3
            try clear hx3
            try clear c4
            try clear c6
            try clear c6b0
            try clear c6b1
            try clear p6
            try clear c7
            try clear c7b0
            try clear c7b1
            try clear c8
            try clear c8b0
            try clear c8b1
            try clear c10
            try clear c11
            try clear c15
            try clear c15b0
            try clear c16
            try clear c16b0
            try clear c17
            try clear c17b0
            try clear c19
            try clear c19b0
            try clear c21
            try clear c21b0
            try clear c22
            try clear c22b0
            try clear c23
            try clear c23b0
            try clear c23b1
            try clear c24
            try clear c24b0
            try clear c26
            try clear c26b0
            try clear c28
            try clear c28b0
            try clear p29
            try clear q29
            try clear hx29
            try clear hf29
            try clear c32
            try clear p32
            try clear q32
            try clear hx32
            try clear hx29_0
            try clear hx322_0
            try clear hx322_1
            try clear hx323_0
            try clear hx323_1
            try clear hx324_0
            try clear hx324_1
            try clear hx324_10
            try clear hx324_11
            try clear hx324_12
            try clear hx324_13
            try clear hx324_14
            try clear hx324_15
            try clear hx324_16
            try clear hx324_17
            try clear hx324_18
            try clear hx324_19
            try clear hx324_2
            try clear hx324_20
            try clear hx324_21
            try clear hx324_22
            try clear hx324_23
            try clear hx324_24
            try clear hx324_25
            try clear hx324_26
            try clear hx324_27
            try clear hx324_28
            try clear hx324_29
            try clear hx324_3
            try clear hx324_30
            try clear hx324_31
            try clear hx324_32
            try clear hx324_33
            try clear hx324_4
            try clear hx324_5
            try clear hx324_6
            try clear hx324_7
            try clear hx324_8
            try clear hx324_9
            try clear hx325_0
            try clear p2
            try clear p29
            try clear p322
            try clear p323
            try clear p324
            try clear p325
            try clear q29
            try clear q322
            try clear q323
            try clear q324
            try clear q325
            obtain ⟨x12_2, x13_2, rfl, rfl, HA, HK2, HO_0, HO_6, HO_8, HB⟩ := hrel
            cases gk with
            | zero => exact absurd HA.out (by simp [purflinglaw06_LanesOnce.l1])
            | succ k2 =>
             have H := HA.out
             clear HA
             simp only [purflinglaw06_LanesOnce.l1] at H
             by_cases c36 : 0 ≤ a1
             · rw [if_pos c36] at H
               have c36b0 : decide (0 ≤ a1) = true := decide_eq_true c36
               clear c36
               by_cases c37 : a1 < (t312.length : Int)
               · rw [if_pos c37] at H
                 have c37b0 : decide (a1 < (t312.length : Int)) = true := decide_eq_true c37
                 clear c37
                 by_cases c38 : x13_2 < (((rd_T48 t312 a1).f1).length : Int)
                 · rw [if_pos c38] at H
                   have c38b0 : decide (x13_2 < (((rd_T48 t312 a1).f1).length : Int)) = true := decide_eq_true c38
                   clear c38
                   by_cases c39 : 0 ≤ x13_2
                   · rw [if_pos c39] at H
                     have c39b0 : decide (0 ≤ x13_2) = true := decide_eq_true c39
                     clear c39
                     by_cases c40 : 0 ≤ (rd ((rd_T48 t312 a1).f1) x13_2)
                     · rw [if_pos c40] at H
                       have c40b0 : decide (0 ≤ (rd ((rd_T48 t312 a1).f1) x13_2)) = true := decide_eq_true c40
                       clear c40
                       by_cases c41 : (rd ((rd_T48 t312 a1).f1) x13_2) < (t312.length : Int)
                       · rw [if_pos c41] at H
                         have c41b0 : decide ((rd ((rd_T48 t312 a1).f1) x13_2) < (t312.length : Int)) = true := decide_eq_true c41
                         clear c41
                         have HC42 := Aside0.mk H
                         clear H
                         have p327 : 0 ≤ (a1 : Int) := of_decide_eq_true (by first | (with_reducible assumption) | assumption)
                         have q327 : a1 < (t312.length : Int) := of_decide_eq_true (by first | (with_reducible assumption) | assumption)
                         obtain ⟨ad327, A327_1, c327_1, A327_31, c327_31, e327, hx327_0, hx327_1, hx327_2, hx327_3, hx327_4, hx327_5, hx327_6, hx327_7, hx327_8, hx327_9, hx327_10, hx327_11, hx327_12, hx327_13, hx327_14, hx327_15, hx327_16, hx327_17, hx327_18, hx327_19, hx327_20, hx327_21, hx327_22, hx327_23, hx327_24, hx327_25, hx327_26, hx327_27, hx327_28, hx327_29, hx327_30, hx327_31, hx327_32, hx327_33, hl327_1, hi327_1, hl327_31, hi327_31⟩ := at_T48 (Kd.N_reads' HO_0.out).2.2 a1 p327 q327
                         cases e327
                         obtain ⟨ce327, hce327, hMe327, hcc327⟩ := Kd.N_get HO_0.out z48 a1 p327 (by first | exact q327 | exact of_decide_eq_true (by first | (with_reducible assumption) | assumption) | (have e_ := (Kd.N_reads' HO_0.out).1; omega))
                         obtain ⟨ua327_1, uc327_1, ua327_31, uc327_31, rfl, ul327_1, ge327_1, ul327_31, ge327_31⟩ := k48_openF hMe327
                         have hv327_1 := hcc327 1 _ rfl
                         rw [add_field _ _ 1 (by omega)] at hv327_1
                         replace hv327_1 := Option.some.inj (hv327_1.symm.trans hx327_1)
                         injection hv327_1 with hva_ hvn_ hvc_
                         rw [hva_] at ge327_1
                         rw [hvc_] at ul327_1
                         have HL327_1 := Aside0.mk (show Kd.V (Kd.int .i64) 3 _ w.heap.size _ _ ((rd_T48 t312 a1).f1) from Kd.V_mk ul327_1 ge327_1)
                         clear hva_ hvn_ hvc_ ge327_1 ul327_1
                         have hv327_31 := hcc327 31 _ rfl
                         rw [add_field _ _ 31 (by omega)] at hv327_31
                         replace hv327_31 := Option.some.inj (hv327_31.symm.trans hx327_31)
                         injection hv327_31 with hva_ hvn_ hvc_
                         rw [hva_] at ge327_31
                         rw [hvc_] at ul327_31
                         have HL327_31 := Aside0.mk (show Kd.V (Kd.int .i64) 2 _ w.heap.size _ _ ((rd_T48 t312 a1).f3) from Kd.V_mk ul327_31 ge327_31)
                         clear hva_ hvn_ hvc_ ge327_31 ul327_31
                         clear hcc327 hce327
                         have HR327_1 := Aside0.mk hi327_1
                         have HC327_1 := Aside0.mk hl327_1
                         clear hi327_1 hl327_1
                         have HR327_31 := Aside0.mk hi327_31
                         have HC327_31 := Aside0.mk hl327_31
                         clear hi327_31 hl327_31
                         replace p327 := eq_true p327
                         replace q327 := eq_true q327
                         have p328 : 0 ≤ (a1 : Int) := of_decide_eq_true (by first | (with_reducible assumption) | assumption)
                         have q328 : a1 < (t312.length : Int) := of_decide_eq_true (by first | (with_reducible assumption) | assumption)
                         obtain ⟨ad328, A328_1, c328_1, A328_31, c328_31, e328, hx328_0, hx328_1, hx328_2, hx328_3, hx328_4, hx328_5, hx328_6, hx328_7, hx328_8, hx328_9, hx328_10, hx328_11, hx328_12, hx328_13, hx328_14, hx328_15, hx328_16, hx328_17, hx328_18, hx328_19, hx328_20, hx328_21, hx328_22, hx328_23, hx328_24, hx328_25, hx328_26, hx328_27, hx328_28, hx328_29, hx328_30, hx328_31, hx328_32, hx328_33, hl328_1, hi328_1, hl328_31, hi328_31⟩ := at_T48 (Kd.N_reads' HO_0.out).2.2 a1 p328 q328
                         obtain rfl : ad327 = ad328 := (by injection e328)
                         obtain ⟨ce328, hce328, hMe328, hcc328⟩ := Kd.N_get HO_0.out z48 a1 p328 (by first | exact q328 | exact of_decide_eq_true (by first | (with_reducible assumption) | assumption) | (have e_ := (Kd.N_reads' HO_0.out).1; omega))
                         obtain ⟨ua328_1, uc328_1, ua328_31, uc328_31, rfl, ul328_1, ge328_1, ul328_31, ge328_31⟩ := k48_openF hMe328
                         have hv328_1 := hcc328 1 _ rfl
                         rw [add_field _ _ 1 (by omega)] at hv328_1
                         replace hv328_1 := Option.some.inj (hv328_1.symm.trans hx328_1)
                         injection hv328_1 with hva_ hvn_ hvc_
                         rw [hva_] at ge328_1
                         rw [hvc_] at ul328_1
                         have HL328_1 := Aside0.mk (show Kd.V (Kd.int .i64) 3 _ w.heap.size _ _ ((rd_T48 t312 a1).f1) from Kd.V_mk ul328_1 ge328_1)
                         clear hva_ hvn_ hvc_ ge328_1 ul328_1
                         have hv328_31 := hcc328 31 _ rfl
                         rw [add_field _ _ 31 (by omega)] at hv328_31
                         replace hv328_31 := Option.some.inj (hv328_31.symm.trans hx328_31)
                         injection hv328_31 with hva_ hvn_ hvc_
                         rw [hva_] at ge328_31
                         rw [hvc_] at ul328_31
                         have HL328_31 := Aside0.mk (show Kd.V (Kd.int .i64) 2 _ w.heap.size _ _ ((rd_T48 t312 a1).f3) from Kd.V_mk ul328_31 ge328_31)
                         clear hva_ hvn_ hvc_ ge328_31 ul328_31
                         clear hcc328 hce328
                         have HR328_1 := Aside0.mk hi328_1
                         have HC328_1 := Aside0.mk hl328_1
                         clear hi328_1 hl328_1
                         have HR328_31 := Aside0.mk hi328_31
                         have HC328_31 := Aside0.mk hl328_31
                         clear hi328_31 hl328_31
                         replace p328 := eq_true p328
                         replace q328 := eq_true q328
                         have ea_ := Option.some.inj (hx327_1.symm.trans hx328_1)
                         injection ea_ with ea_ en_ ec_
                         subst ea_
                         subst ec_
                         clear en_
                         have ea_ := Option.some.inj (hx327_31.symm.trans hx328_31)
                         injection ea_ with ea_ en_ ec_
                         subst ea_
                         subst ec_
                         clear en_
                         have p329 : 0 ≤ (x13_2 : Int) := of_decide_eq_true (by first | (with_reducible assumption) | assumption)
                         have q329 : x13_2 < (((rd_T48 t312 a1).f1).length : Int) := of_decide_eq_true (by first | (with_reducible assumption) | assumption)
                         obtain ⟨ad329, e329, hx329_0⟩ := Kd.at_int (by repeat (first | (with_reducible exact HR328_1.out) | (with_reducible refine Kd.C_alloc ?_ _) | (with_reducible refine Kd.C_drewN ?_ _) | (with_reducible refine Kd.C_drew ?_) | exact HR328_1.out)) x13_2 p329 q329
                         cases e329
                         replace p329 := eq_true p329
                         replace q329 := eq_true q329
                         have p330 : 0 ≤ ((rd ((rd_T48 t312 a1).f1) x13_2) : Int) := of_decide_eq_true (by first | (with_reducible assumption) | assumption)
                         have q330 : (rd ((rd_T48 t312 a1).f1) x13_2) < (t312.length : Int) := of_decide_eq_true (by first | (with_reducible assumption) | assumption)
                         obtain ⟨ad330, A330_1, c330_1, A330_31, c330_31, e330, hx330_0, hx330_1, hx330_2, hx330_3, hx330_4, hx330_5, hx330_6, hx330_7, hx330_8, hx330_9, hx330_10, hx330_11, hx330_12, hx330_13, hx330_14, hx330_15, hx330_16, hx330_17, hx330_18, hx330_19, hx330_20, hx330_21, hx330_22, hx330_23, hx330_24, hx330_25, hx330_26, hx330_27, hx330_28, hx330_29, hx330_30, hx330_31, hx330_32, hx330_33, hl330_1, hi330_1, hl330_31, hi330_31⟩ := at_T48 (Kd.N_reads' HO_0.out).2.2 (rd ((rd_T48 t312 a1).f1) x13_2) p330 q330
                         obtain rfl : ad327 = ad330 := (by injection e330)
                         obtain ⟨ce330, hce330, hMe330, hcc330⟩ := Kd.N_get HO_0.out z48 (rd ((rd_T48 t312 a1).f1) x13_2) p330 (by first | exact q330 | exact of_decide_eq_true (by first | (with_reducible assumption) | assumption) | (have e_ := (Kd.N_reads' HO_0.out).1; omega))
                         obtain ⟨ua330_1, uc330_1, ua330_31, uc330_31, rfl, ul330_1, ge330_1, ul330_31, ge330_31⟩ := k48_openF hMe330
                         have hv330_1 := hcc330 1 _ rfl
                         rw [add_field _ _ 1 (by omega)] at hv330_1
                         replace hv330_1 := Option.some.inj (hv330_1.symm.trans hx330_1)
                         injection hv330_1 with hva_ hvn_ hvc_
                         rw [hva_] at ge330_1
                         rw [hvc_] at ul330_1
                         have HL330_1 := Aside0.mk (show Kd.V (Kd.int .i64) 3 _ w.heap.size _ _ ((rd_T48 t312 (rd ((rd_T48 t312 a1).f1) x13_2)).f1) from Kd.V_mk ul330_1 ge330_1)
                         clear hva_ hvn_ hvc_ ge330_1 ul330_1
                         have hv330_31 := hcc330 31 _ rfl
                         rw [add_field _ _ 31 (by omega)] at hv330_31
                         replace hv330_31 := Option.some.inj (hv330_31.symm.trans hx330_31)
                         injection hv330_31 with hva_ hvn_ hvc_
                         rw [hva_] at ge330_31
                         rw [hvc_] at ul330_31
                         have HL330_31 := Aside0.mk (show Kd.V (Kd.int .i64) 2 _ w.heap.size _ _ ((rd_T48 t312 (rd ((rd_T48 t312 a1).f1) x13_2)).f3) from Kd.V_mk ul330_31 ge330_31)
                         clear hva_ hvn_ hvc_ ge330_31 ul330_31
                         clear hcc330 hce330
                         have HR330_1 := Aside0.mk hi330_1
                         have HC330_1 := Aside0.mk hl330_1
                         clear hi330_1 hl330_1
                         have HR330_31 := Aside0.mk hi330_31
                         have HC330_31 := Aside0.mk hl330_31
                         clear hi330_31 hl330_31
                         replace p330 := eq_true p330
                         replace q330 := eq_true q330
                         go_upto_if 103 with (fail)
                         go_cut [12] (fun v12 wc => ∃ (kq : Nat) (x12_41 : Int), v12 = .int .i64 x12_41 ∧ Aside0 (purflinglaw06_LanesOnce.j2 kq t312 a1 t311 t315 x8_1 x12_41 x13_2 (rd ((rd_T48 t312 a1).f1) x13_2) = some r) ∧ Aside0 (kq ≤ k2) ∧ Aside0 (Kd.N k48 48 wc w.heap.size (fun k_ => some k_ ≠ ((.slice Ao35 t315.length co35) : Value).ownBlock ∧ some k_ ≠ (v320 : Value).ownBlock) (.slice (some ad327) t312.length co11) t312) ∧ Aside0 (Kd.R k35 35 wc w.heap.size (fun _ => True) (.slice Ao35 t315.length co35) t315) ∧ Aside0 (Kd.R (Kd.int .i64) 3 wc w.heap.size (fun _ => True) v320 x8_1) ∧ Aside0 (Kd.C (Kd.int .i64) wc (some ad329) ((rd_T48 t312 a1).f1).length ((rd_T48 t312 a1).f1)) ∧ Aside0 (Kd.C (Kd.int .i64) wc A327_31 ((rd_T48 t312 a1).f3).length ((rd_T48 t312 a1).f3)) ∧ Aside0 (Kd.C (Kd.int .i64) wc (some ad329) ((rd_T48 t312 a1).f1).length ((rd_T48 t312 a1).f1)) ∧ Aside0 (Kd.C (Kd.int .i64) wc A327_31 ((rd_T48 t312 a1).f3).length ((rd_T48 t312 a1).f3)) ∧ Aside0 (Kd.C (Kd.int .i64) wc A330_1 ((rd_T48 t312 (rd ((rd_T48 t312 a1).f1) x13_2)).f1).length ((rd_T48 t312 (rd ((rd_T48 t312 a1).f1) x13_2)).f1)) ∧ Aside0 (Kd.C (Kd.int .i64) wc A330_31 ((rd_T48 t312 (rd ((rd_T48 t312 a1).f1) x13_2)).f3).length ((rd_T48 t312 (rd ((rd_T48 t312 a1).f1) x13_2)).f3)) ∧ Aside0 (Below w.heap.size w wc))
                         case first =>
                          have H := HC42.out
                          clear HC42
                          by_cases c43 : ((rd_T48 t312 (rd ((rd_T48 t312 a1).f1) x13_2)).f0) = 9
                          · rw [if_pos c43] at H
                            have c43b0 : (((rd_T48 t312 (rd ((rd_T48 t312 a1).f1) x13_2)).f0) == 9) = true := beq_iff_eq.mpr c43
                            have c43b1 : (((rd_T48 t312 (rd ((rd_T48 t312 a1).f1) x13_2)).f0) != 9) = false := bne_eq_false_iff_eq.mpr c43
                            clear c43
                            (first | rw [c43b0] | (simp only [i64_w, i32_w]; rw [c43b0]) | skip)
                            have H' := Aside0.mk H
                            clear H
                            go_wp2
                            go_meet
                            case rel => exact ⟨_, (wrap64 (x12_2 + 1)), (by first | rfl | (simp; done) | (simp [*]; done)), H', ⟨by have := HK1.out; have := HK2.out; first | omega | exact Nat.le_refl _⟩, ⟨by (with_reducible repeat (first | apply Kd.N_alloc | apply Kd.N_drewN | apply Kd.N_drew)); exact HO_0.out⟩, ⟨by (with_reducible repeat (first | apply Kd.R_alloc | apply Kd.R_drewN | apply Kd.R_drew)); exact HO_6.out⟩, ⟨by (with_reducible repeat (first | apply Kd.R_alloc | apply Kd.R_drewN | apply Kd.R_drew)); exact HO_8.out⟩, ⟨by repeat (first | (with_reducible exact HR327_1.out) | (with_reducible refine Kd.C_alloc ?_ _) | (with_reducible refine Kd.C_drewN ?_ _) | (with_reducible refine Kd.C_drew ?_) | exact HR327_1.out)⟩, ⟨by repeat (first | (with_reducible exact HR327_31.out) | (with_reducible refine Kd.C_alloc ?_ _) | (with_reducible refine Kd.C_drewN ?_ _) | (with_reducible refine Kd.C_drew ?_) | exact HR327_31.out)⟩, ⟨by repeat (first | (with_reducible exact HR328_1.out) | (with_reducible refine Kd.C_alloc ?_ _) | (with_reducible refine Kd.C_drewN ?_ _) | (with_reducible refine Kd.C_drew ?_) | exact HR328_1.out)⟩, ⟨by repeat (first | (with_reducible exact HR328_31.out) | (with_reducible refine Kd.C_alloc ?_ _) | (with_reducible refine Kd.C_drewN ?_ _) | (with_reducible refine Kd.C_drew ?_) | exact HR328_31.out)⟩, ⟨by repeat (first | (with_reducible exact HR330_1.out) | (with_reducible refine Kd.C_alloc ?_ _) | (with_reducible refine Kd.C_drewN ?_ _) | (with_reducible refine Kd.C_drew ?_) | exact HR330_1.out)⟩, ⟨by repeat (first | (with_reducible exact HR330_31.out) | (with_reducible refine Kd.C_alloc ?_ _) | (with_reducible refine Kd.C_drewN ?_ _) | (with_reducible refine Kd.C_drew ?_) | exact HR330_31.out)⟩, ⟨by repeat (first | (with_reducible first | exact HB.out | apply below_alloc | apply pw_below_drewN | apply below_drew1) | exact HB.out)⟩⟩
                          · rw [if_neg c43] at H
                            have c43b0 : (((rd_T48 t312 (rd ((rd_T48 t312 a1).f1) x13_2)).f0) == 9) = false := beq_eq_false_iff_ne.mpr c43
                            have c43b1 : (((rd_T48 t312 (rd ((rd_T48 t312 a1).f1) x13_2)).f0) != 9) = true := bne_iff_ne.mpr c43
                            (first | rw [c43b0] | (simp only [i64_w, i32_w]; rw [c43b0]) | skip)
                            have H' := Aside0.mk H
                            clear H
                            go_wp2
                            go_meet
                            case rel => exact ⟨_, (x12_2), (by first | rfl | (simp; done) | (simp [*]; done)), H', ⟨by have := HK1.out; have := HK2.out; first | omega | exact Nat.le_refl _⟩, ⟨by (with_reducible repeat (first | apply Kd.N_alloc | apply Kd.N_drewN | apply Kd.N_drew)); exact HO_0.out⟩, ⟨by (with_reducible repeat (first | apply Kd.R_alloc | apply Kd.R_drewN | apply Kd.R_drew)); exact HO_6.out⟩, ⟨by (with_reducible repeat (first | apply Kd.R_alloc | apply Kd.R_drewN | apply Kd.R_drew)); exact HO_8.out⟩, ⟨by repeat (first | (with_reducible exact HR327_1.out) | (with_reducible refine Kd.C_alloc ?_ _) | (with_reducible refine Kd.C_drewN ?_ _) | (with_reducible refine Kd.C_drew ?_) | exact HR327_1.out)⟩, ⟨by repeat (first | (with_reducible exact HR327_31.out) | (with_reducible refine Kd.C_alloc ?_ _) | (with_reducible refine Kd.C_drewN ?_ _) | (with_reducible refine Kd.C_drew ?_) | exact HR327_31.out)⟩, ⟨by repeat (first | (with_reducible exact HR328_1.out) | (with_reducible refine Kd.C_alloc ?_ _) | (with_reducible refine Kd.C_drewN ?_ _) | (with_reducible refine Kd.C_drew ?_) | exact HR328_1.out)⟩, ⟨by repeat (first | (with_reducible exact HR328_31.out) | (with_reducible refine Kd.C_alloc ?_ _) | (with_reducible refine Kd.C_drewN ?_ _) | (with_reducible refine Kd.C_drew ?_) | exact HR328_31.out)⟩, ⟨by repeat (first | (with_reducible exact HR330_1.out) | (with_reducible refine Kd.C_alloc ?_ _) | (with_reducible refine Kd.C_drewN ?_ _) | (with_reducible refine Kd.C_drew ?_) | exact HR330_1.out)⟩, ⟨by repeat (first | (with_reducible exact HR330_31.out) | (with_reducible refine Kd.C_alloc ?_ _) | (with_reducible refine Kd.C_drewN ?_ _) | (with_reducible refine Kd.C_drew ?_) | exact HR330_31.out)⟩, ⟨by repeat (first | (with_reducible first | exact HB.out | apply below_alloc | apply pw_below_drewN | apply below_drew1) | exact HB.out)⟩⟩
                         case rest =>
                          clear HC42
                          try clear c1
                          try clear c2
                          try clear p2
                          try clear q2
                          try clear hx2
                          try clear hf2
                          try clear c3
                          try clear p3
                          try clear q3
                          try clear hx3
                          try clear c4
                          try clear c6
                          try clear c6b0
                          try clear c6b1
                          try clear p6
                          try clear c7
                          try clear c7b0
                          try clear c7b1
                          try clear c8
                          try clear c8b0
                          try clear c8b1
                          try clear c10
                          try clear c11
                          try clear c15
                          try clear c15b0
                          try clear c16
                          try clear c16b0
                          try clear c17
                          try clear c17b0
                          try clear c19
                          try clear c19b0
                          try clear c21
                          try clear c21b0
                          try clear c22
                          try clear c22b0
                          try clear c23
                          try clear c23b0
                          try clear c23b1
                          try clear c24
                          try clear c24b0
                          try clear c26
                          try clear c26b0
                          try clear c28
                          try clear c28b0
                          try clear p29
                          try clear q29
                          try clear hx29
                          try clear hf29
                          try clear c32
                          try clear p32
                          try clear q32
                          try clear hx32
                          try clear c33
                          try clear p33
                          try clear q33
                          try clear hx33
                          try clear c36
                          try clear c36b0
                          try clear c37
                          try clear c37b0
                          try clear c38
                          try clear c38b0
                          try clear c39
                          try clear c39b0
                          try clear c40
                          try clear c40b0
                          try clear c41
                          try clear c41b0
                          try clear c43
                          try clear c43b0
                          try clear c43b1
                          try clear hx29_0
                          try clear hx322_0
                          try clear hx322_1
                          try clear hx323_0
                          try clear hx323_1
                          try clear hx324_0
                          try clear hx324_1
                          try clear hx324_10
                          try clear hx324_11
                          try clear hx324_12
                          try clear hx324_13
                          try clear hx324_14
                          try clear hx324_15
                          try clear hx324_16
                          try clear hx324_17
                          try clear hx324_18
                          try clear hx324_19
                          try clear hx324_2
                          try clear hx324_20
                          try clear hx324_21
                          try clear hx324_22
                          try clear hx324_23
                          try clear hx324_24
                          try clear hx324_25
                          try clear hx324_26
                          try clear hx324_27
                          try clear hx324_28
                          try clear hx324_29
                          try clear hx324_3
                          try clear hx324_30
                          try clear hx324_31
                          try clear hx324_32
                          try clear hx324_33
                          try clear hx324_4
                          try clear hx324_5
                          try clear hx324_6
                          try clear hx324_7
                          try clear hx324_8
                          try clear hx324_9
                          try clear hx325_0
                          try clear hx327_0
                          try clear hx327_1
                          try clear hx327_10
                          try clear hx327_11
                          try clear hx327_12
                          try clear hx327_13
                          try clear hx327_14
                          try clear hx327_15
                          try clear hx327_16
                          try clear hx327_17
                          try clear hx327_18
                          try clear hx327_19
                          try clear hx327_2
                          try clear hx327_20
                          try clear hx327_21
                          try clear hx327_22
                          try clear hx327_23
                          try clear hx327_24
                          try clear hx327_25
                          try clear hx327_26
                          try clear hx327_27
                          try clear hx327_28
                          try clear hx327_29
                          try clear hx327_3
                          try clear hx327_30
                          try clear hx327_31
                          try clear hx327_32
                          try clear hx327_33
                          try clear hx327_4
                          try clear hx327_5
                          try clear hx327_6
                          try clear hx327_7
                          try clear hx327_8
                          try clear hx327_9
                          try clear hx328_0
                          try clear hx328_1
                          try clear hx328_10
                          try clear hx328_11
                          try clear hx328_12
                          try clear hx328_13
                          try clear hx328_14
                          try clear hx328_15
                          try clear hx328_16
                          try clear hx328_17
                          try clear hx328_18
                          try clear hx328_19
                          try clear hx328_2
                          try clear hx328_20
                          try clear hx328_21
                          try clear hx328_22
                          try clear hx328_23
                          try clear hx328_24
                          try clear hx328_25
                          try clear hx328_26
                          try clear hx328_27
                          try clear hx328_28
                          try clear hx328_29
                          try clear hx328_3
                          try clear hx328_30
                          try clear hx328_31
                          try clear hx328_32
                          try clear hx328_33
                          try clear hx328_4
                          try clear hx328_5
                          try clear hx328_6
                          try clear hx328_7
                          try clear hx328_8
                          try clear hx328_9
                          try clear hx329_0
                          try clear hx330_0
                          try clear hx330_1
                          try clear hx330_10
                          try clear hx330_11
                          try clear hx330_12
                          try clear hx330_13
                          try clear hx330_14
                          try clear hx330_15
                          try clear hx330_16
                          try clear hx330_17
                          try clear hx330_18
                          try clear hx330_19
                          try clear hx330_2
                          try clear hx330_20
                          try clear hx330_21
                          try clear hx330_22
                          try clear hx330_23
                          try clear hx330_24
                          try clear hx330_25
                          try clear hx330_26
                          try clear hx330_27
                          try clear hx330_28
                          try clear hx330_29
                          try clear hx330_3
                          try clear hx330_30
                          try clear hx330_31
                          try clear hx330_32
                          try clear hx330_33
                          try clear hx330_4
                          try clear hx330_5
                          try clear hx330_6
                          try clear hx330_7
                          try clear hx330_8
                          try clear hx330_9
                          try clear p2
                          try clear p29
                          try clear p3
                          try clear p32
                          try clear p322
                          try clear p323
                          try clear p324
                          try clear p325
                          try clear p327
                          try clear p328
                          try clear p329
                          try clear p330
                          try clear p6
                          try clear q2
                          try clear q29
                          try clear q3
                          try clear q32
                          try clear q322
                          try clear q323
                          try clear q324
                          try clear q325
                          try clear q327
                          try clear q328
                          try clear q329
                          try clear q330
                          obtain ⟨kq, x12_41, rfl, HA, HJ41, HO_0, HO_6, HO_8, HR327_1, HR327_31, HR328_1, HR328_31, HR330_1, HR330_31, HB⟩ := hcut
                          cases kq with
                          | zero => exact absurd HA.out (by simp [purflinglaw06_LanesOnce.j2])
                          | succ kj41 =>
                           have H := HA.out
                           clear HA
                           simp only [purflinglaw06_LanesOnce.j2] at H
                           have H' := Aside0.mk H
                           clear H
                           go_wp2
                           go_loopg [12, 15] kj41 (fun kq v12 v15 w' => ∃ (x12_4 : Int) (x15_4 : Int), v12 = .int .i64 x12_4 ∧ v15 = .int .i64 x15_4 ∧ Aside0 (purflinglaw06_LanesOnce.l2 kq t312 a1 t311 t315 x8_1 x12_4 x13_2 (rd ((rd_T48 t312 a1).f1) x13_2) x15_4 = some r) ∧ Aside0 (kq ≤ kj41) ∧ Aside0 (Kd.N k48 48 w' w.heap.size (fun k_ => some k_ ≠ ((.slice Ao35 t315.length co35) : Value).ownBlock ∧ some k_ ≠ (v320 : Value).ownBlock) (.slice (some ad327) t312.length co11) t312) ∧ Aside0 (Kd.R k35 35 w' w.heap.size (fun _ => True) (.slice Ao35 t315.length co35) t315) ∧ Aside0 (Kd.R (Kd.int .i64) 3 w' w.heap.size (fun _ => True) v320 x8_1) ∧ Aside0 (Kd.C (Kd.int .i64) w' (some ad329) ((rd_T48 t312 a1).f1).length ((rd_T48 t312 a1).f1)) ∧ Aside0 (Kd.C (Kd.int .i64) w' A327_31 ((rd_T48 t312 a1).f3).length ((rd_T48 t312 a1).f3)) ∧ Aside0 (Kd.C (Kd.int .i64) w' (some ad329) ((rd_T48 t312 a1).f1).length ((rd_T48 t312 a1).f1)) ∧ Aside0 (Kd.C (Kd.int .i64) w' A327_31 ((rd_T48 t312 a1).f3).length ((rd_T48 t312 a1).f3)) ∧ Aside0 (Kd.C (Kd.int .i64) w' A330_1 ((rd_T48 t312 (rd ((rd_T48 t312 a1).f1) x13_2)).f1).length ((rd_T48 t312 (rd ((rd_T48 t312 a1).f1) x13_2)).f1)) ∧ Aside0 (Kd.C (Kd.int .i64) w' A330_31 ((rd_T48 t312 (rd ((rd_T48 t312 a1).f1) x13_2)).f3).length ((rd_T48 t312 (rd ((rd_T48 t312 a1).f1) x13_2)).f3)) ∧ Aside0 (Below w.heap.size w w'))
                           case atStart => exact ⟨(x12_41), (0), (by first | rfl | (simp; done) | (simp [*]; done)), (by first | rfl | (simp; done) | (simp [*]; done)), H', ⟨Nat.le_refl _⟩, ⟨by (with_reducible repeat (first | apply Kd.N_alloc | apply Kd.N_drewN | apply Kd.N_drew)); exact HO_0.out⟩, ⟨by (with_reducible repeat (first | apply Kd.R_alloc | apply Kd.R_drewN | apply Kd.R_drew)); exact HO_6.out⟩, ⟨by (with_reducible repeat (first | apply Kd.R_alloc | apply Kd.R_drewN | apply Kd.R_drew)); exact HO_8.out⟩, ⟨by repeat (first | (with_reducible exact HR327_1.out) | (with_reducible refine Kd.C_alloc ?_ _) | (with_reducible refine Kd.C_drewN ?_ _) | (with_reducible refine Kd.C_drew ?_) | exact HR327_1.out)⟩, ⟨by repeat (first | (with_reducible exact HR327_31.out) | (with_reducible refine Kd.C_alloc ?_ _) | (with_reducible refine Kd.C_drewN ?_ _) | (with_reducible refine Kd.C_drew ?_) | exact HR327_31.out)⟩, ⟨by repeat (first | (with_reducible exact HR328_1.out) | (with_reducible refine Kd.C_alloc ?_ _) | (with_reducible refine Kd.C_drewN ?_ _) | (with_reducible refine Kd.C_drew ?_) | exact HR328_1.out)⟩, ⟨by repeat (first | (with_reducible exact HR328_31.out) | (with_reducible refine Kd.C_alloc ?_ _) | (with_reducible refine Kd.C_drewN ?_ _) | (with_reducible refine Kd.C_drew ?_) | exact HR328_31.out)⟩, ⟨by repeat (first | (with_reducible exact HR330_1.out) | (with_reducible refine Kd.C_alloc ?_ _) | (with_reducible refine Kd.C_drewN ?_ _) | (with_reducible refine Kd.C_drew ?_) | exact HR330_1.out)⟩, ⟨by repeat (first | (with_reducible exact HR330_31.out) | (with_reducible refine Kd.C_alloc ?_ _) | (with_reducible refine Kd.C_drewN ?_ _) | (with_reducible refine Kd.C_drew ?_) | exact HR330_31.out)⟩, ⟨by repeat (first | (with_reducible first | exact HB.out | apply below_alloc | apply pw_below_drewN | apply below_drew1) | exact HB.out)⟩⟩
                           case round =>
                            clear H'
                            try clear c1
                            try clear c2
                            try clear p2
                            try clear q2
                            try clear hx2
                            try clear hf2
                            try clear c3
                            try clear p3
                            try clear q3
                            try clear hx3
                            try clear c4
                            try clear c6
                            try clear c6b0
                            try clear c6b1
                            try clear p6
                            try clear c7
                            try clear c7b0
                            try clear c7b1
                            try clear c8
                            try clear c8b0
                            try clear c8b1
                            try clear c10
                            try clear c11
                            try clear c15
                            try clear c15b0
                            try clear c16
                            try clear c16b0
                            try clear c17
                            try clear c17b0
                            try clear c19
                            try clear c19b0
                            try clear c21
                            try clear c21b0
                            try clear c22
                            try clear c22b0
                            try clear c23
                            try clear c23b0
                            try clear c23b1
                            try clear c24
                            try clear c24b0
                            try clear c26
                            try clear c26b0
                            try clear c28
                            try clear c28b0
                            try clear p29
                            try clear q29
                            try clear hx29
                            try clear hf29
                            try clear c32
                            try clear p32
                            try clear q32
                            try clear hx32
                            try clear c33
                            try clear p33
                            try clear q33
                            try clear hx33
                            try clear c36
                            try clear c36b0
                            try clear c37
                            try clear c37b0
                            try clear c38
                            try clear c38b0
                            try clear c39
                            try clear c39b0
                            try clear c40
                            try clear c40b0
                            try clear c41
                            try clear c41b0
                            try clear c43
                            try clear c43b0
                            try clear c43b1
                            try clear hx29_0
                            try clear hx322_0
                            try clear hx322_1
                            try clear hx323_0
                            try clear hx323_1
                            try clear hx324_0
                            try clear hx324_1
                            try clear hx324_10
                            try clear hx324_11
                            try clear hx324_12
                            try clear hx324_13
                            try clear hx324_14
                            try clear hx324_15
                            try clear hx324_16
                            try clear hx324_17
                            try clear hx324_18
                            try clear hx324_19
                            try clear hx324_2
                            try clear hx324_20
                            try clear hx324_21
                            try clear hx324_22
                            try clear hx324_23
                            try clear hx324_24
                            try clear hx324_25
                            try clear hx324_26
                            try clear hx324_27
                            try clear hx324_28
                            try clear hx324_29
                            try clear hx324_3
                            try clear hx324_30
                            try clear hx324_31
                            try clear hx324_32
                            try clear hx324_33
                            try clear hx324_4
                            try clear hx324_5
                            try clear hx324_6
                            try clear hx324_7
                            try clear hx324_8
                            try clear hx324_9
                            try clear hx325_0
                            try clear hx327_0
                            try clear hx327_1
                            try clear hx327_10
                            try clear hx327_11
                            try clear hx327_12
                            try clear hx327_13
                            try clear hx327_14
                            try clear hx327_15
                            try clear hx327_16
                            try clear hx327_17
                            try clear hx327_18
                            try clear hx327_19
                            try clear hx327_2
                            try clear hx327_20
                            try clear hx327_21
                            try clear hx327_22
                            try clear hx327_23
                            try clear hx327_24
                            try clear hx327_25
                            try clear hx327_26
                            try clear hx327_27
                            try clear hx327_28
                            try clear hx327_29
                            try clear hx327_3
                            try clear hx327_30
                            try clear hx327_31
                            try clear hx327_32
                            try clear hx327_33
                            try clear hx327_4
                            try clear hx327_5
                            try clear hx327_6
                            try clear hx327_7
                            try clear hx327_8
                            try clear hx327_9
                            try clear hx328_0
                            try clear hx328_1
                            try clear hx328_10
                            try clear hx328_11
                            try clear hx328_12
                            try clear hx328_13
                            try clear hx328_14
                            try clear hx328_15
                            try clear hx328_16
                            try clear hx328_17
                            try clear hx328_18
                            try clear hx328_19
                            try clear hx328_2
                            try clear hx328_20
                            try clear hx328_21
                            try clear hx328_22
                            try clear hx328_23
                            try clear hx328_24
                            try clear hx328_25
                            try clear hx328_26
                            try clear hx328_27
                            try clear hx328_28
                            try clear hx328_29
                            try clear hx328_3
                            try clear hx328_30
                            try clear hx328_31
                            try clear hx328_32
                            try clear hx328_33
                            try clear hx328_4
                            try clear hx328_5
                            try clear hx328_6
                            try clear hx328_7
                            try clear hx328_8
                            try clear hx328_9
                            try clear hx329_0
                            try clear hx330_0
                            try clear hx330_1
                            try clear hx330_10
                            try clear hx330_11
                            try clear hx330_12
                            try clear hx330_13
                            try clear hx330_14
                            try clear hx330_15
                            try clear hx330_16
                            try clear hx330_17
                            try clear hx330_18
                            try clear hx330_19
                            try clear hx330_2
                            try clear hx330_20
                            try clear hx330_21
                            try clear hx330_22
                            try clear hx330_23
                            try clear hx330_24
                            try clear hx330_25
                            try clear hx330_26
                            try clear hx330_27
                            try clear hx330_28
                            try clear hx330_29
                            try clear hx330_3
                            try clear hx330_30
                            try clear hx330_31
                            try clear hx330_32
                            try clear hx330_33
                            try clear hx330_4
                            try clear hx330_5
                            try clear hx330_6
                            try clear hx330_7
                            try clear hx330_8
                            try clear hx330_9
                            try clear p2
                            try clear p29
                            try clear p3
                            try clear p32
                            try clear p322
                            try clear p323
                            try clear p324
                            try clear p325
                            try clear p327
                            try clear p328
                            try clear p329
                            try clear p33
                            try clear p330
                            try clear p6
                            try clear q2
                            try clear q29
                            try clear q3
                            try clear q32
                            try clear q322
                            try clear q323
                            try clear q324
                            try clear q325
                            try clear q327
                            try clear q328
                            try clear q329
                            try clear q33
                            try clear q330
                            obtain ⟨x12_4, x15_4, rfl, rfl, HA, HK4, HO_0, HO_6, HO_8, HR327_1, HR327_31, HR328_1, HR328_31, HR330_1, HR330_31, HB⟩ := hrel
                            cases gk with
                            | zero => exact absurd HA.out (by simp [purflinglaw06_LanesOnce.l2])
                            | succ k4 =>
                             have H := HA.out
                             clear HA
                             simp only [purflinglaw06_LanesOnce.l2] at H
                             have HC44 := Aside0.mk H
                             clear H
                             go_upto_region 23 with (fail)
                             go_cut [129] (fun v129 wc => ∃ (kq : Nat) (x129_43 : Bool), v129 = .bool x129_43 ∧ Aside0 (purflinglaw06_LanesOnce.j4 kq t312 a1 t311 t315 x8_1 x12_4 x13_2 (rd ((rd_T48 t312 a1).f1) x13_2) x15_4 x129_43 = some r) ∧ Aside0 (kq ≤ k4) ∧ Aside0 (Kd.N k48 48 wc w.heap.size (fun k_ => some k_ ≠ ((.slice Ao35 t315.length co35) : Value).ownBlock ∧ some k_ ≠ (v320 : Value).ownBlock) (.slice (some ad327) t312.length co11) t312) ∧ Aside0 (Kd.R k35 35 wc w.heap.size (fun _ => True) (.slice Ao35 t315.length co35) t315) ∧ Aside0 (Kd.R (Kd.int .i64) 3 wc w.heap.size (fun _ => True) v320 x8_1) ∧ Aside0 (Kd.C (Kd.int .i64) wc (some ad329) ((rd_T48 t312 a1).f1).length ((rd_T48 t312 a1).f1)) ∧ Aside0 (Kd.C (Kd.int .i64) wc A327_31 ((rd_T48 t312 a1).f3).length ((rd_T48 t312 a1).f3)) ∧ Aside0 (Kd.C (Kd.int .i64) wc (some ad329) ((rd_T48 t312 a1).f1).length ((rd_T48 t312 a1).f1)) ∧ Aside0 (Kd.C (Kd.int .i64) wc A327_31 ((rd_T48 t312 a1).f3).length ((rd_T48 t312 a1).f3)) ∧ Aside0 (Kd.C (Kd.int .i64) wc A330_1 ((rd_T48 t312 (rd ((rd_T48 t312 a1).f1) x13_2)).f1).length ((rd_T48 t312 (rd ((rd_T48 t312 a1).f1) x13_2)).f1)) ∧ Aside0 (Kd.C (Kd.int .i64) wc A330_31 ((rd_T48 t312 (rd ((rd_T48 t312 a1).f1) x13_2)).f3).length ((rd_T48 t312 (rd ((rd_T48 t312 a1).f1) x13_2)).f3)) ∧ Aside0 (Below w.heap.size w wc))
                             case first =>
                              have H := HC44.out
                              clear HC44
                              by_cases c45 : 0 ≤ (rd ((rd_T48 t312 a1).f1) x13_2)
                              · rw [if_pos c45] at H
                                have c45b0 : decide (0 ≤ (rd ((rd_T48 t312 a1).f1) x13_2)) = true := decide_eq_true c45
                                clear c45
                                (first | rw [c45b0] | (simp only [i64_w, i32_w]; rw [c45b0]) | skip)
                                by_cases c46 : (rd ((rd_T48 t312 a1).f1) x13_2) < (t312.length : Int)
                                · rw [if_pos c46] at H
                                  have c46b0 : decide ((rd ((rd_T48 t312 a1).f1) x13_2) < (t312.length : Int)) = true := decide_eq_true c46
                                  clear c46
                                  by_cases c47 : x15_4 < (((rd_T48 t312 (rd ((rd_T48 t312 a1).f1) x13_2)).f1).length : Int)
                                  · rw [if_pos c47] at H
                                    have c47b0 : decide (x15_4 < (((rd_T48 t312 (rd ((rd_T48 t312 a1).f1) x13_2)).f1).length : Int)) = true := decide_eq_true c47
                                    clear c47
                                    by_cases c48 : ((rd_T48 t312 (rd ((rd_T48 t312 a1).f1) x13_2)).f0) ≥ 6
                                    · rw [if_pos c48] at H
                                      have c48b0 : decide (6 ≤ ((rd_T48 t312 (rd ((rd_T48 t312 a1).f1) x13_2)).f0)) = true := decide_eq_true c48
                                      clear c48
                                      have H' := Aside0.mk H
                                      clear H
                                      have p331 : 0 ≤ ((rd ((rd_T48 t312 a1).f1) x13_2) : Int) := of_decide_eq_true (by first | (with_reducible assumption) | assumption)
                                      have q331 : (rd ((rd_T48 t312 a1).f1) x13_2) < (t312.length : Int) := of_decide_eq_true (by first | (with_reducible assumption) | assumption)
                                      obtain ⟨ad331, A331_1, c331_1, A331_31, c331_31, e331, hx331_0, hx331_1, hx331_2, hx331_3, hx331_4, hx331_5, hx331_6, hx331_7, hx331_8, hx331_9, hx331_10, hx331_11, hx331_12, hx331_13, hx331_14, hx331_15, hx331_16, hx331_17, hx331_18, hx331_19, hx331_20, hx331_21, hx331_22, hx331_23, hx331_24, hx331_25, hx331_26, hx331_27, hx331_28, hx331_29, hx331_30, hx331_31, hx331_32, hx331_33, hl331_1, hi331_1, hl331_31, hi331_31⟩ := at_T48 (Kd.N_reads' HO_0.out).2.2 (rd ((rd_T48 t312 a1).f1) x13_2) p331 q331
                                      obtain rfl : ad327 = ad331 := (by injection e331)
                                      obtain ⟨ce331, hce331, hMe331, hcc331⟩ := Kd.N_get HO_0.out z48 (rd ((rd_T48 t312 a1).f1) x13_2) p331 (by first | exact q331 | exact of_decide_eq_true (by first | (with_reducible assumption) | assumption) | (have e_ := (Kd.N_reads' HO_0.out).1; omega))
                                      obtain ⟨ua331_1, uc331_1, ua331_31, uc331_31, rfl, ul331_1, ge331_1, ul331_31, ge331_31⟩ := k48_openF hMe331
                                      have hv331_1 := hcc331 1 _ rfl
                                      rw [add_field _ _ 1 (by omega)] at hv331_1
                                      replace hv331_1 := Option.some.inj (hv331_1.symm.trans hx331_1)
                                      injection hv331_1 with hva_ hvn_ hvc_
                                      rw [hva_] at ge331_1
                                      rw [hvc_] at ul331_1
                                      have HL331_1 := Aside0.mk (show Kd.V (Kd.int .i64) 3 _ w.heap.size _ _ ((rd_T48 t312 (rd ((rd_T48 t312 a1).f1) x13_2)).f1) from Kd.V_mk ul331_1 ge331_1)
                                      clear hva_ hvn_ hvc_ ge331_1 ul331_1
                                      have hv331_31 := hcc331 31 _ rfl
                                      rw [add_field _ _ 31 (by omega)] at hv331_31
                                      replace hv331_31 := Option.some.inj (hv331_31.symm.trans hx331_31)
                                      injection hv331_31 with hva_ hvn_ hvc_
                                      rw [hva_] at ge331_31
                                      rw [hvc_] at ul331_31
                                      have HL331_31 := Aside0.mk (show Kd.V (Kd.int .i64) 2 _ w.heap.size _ _ ((rd_T48 t312 (rd ((rd_T48 t312 a1).f1) x13_2)).f3) from Kd.V_mk ul331_31 ge331_31)
                                      clear hva_ hvn_ hvc_ ge331_31 ul331_31
                                      clear hcc331 hce331
                                      have HR331_1 := Aside0.mk hi331_1
                                      have HC331_1 := Aside0.mk hl331_1
                                      clear hi331_1 hl331_1
                                      have HR331_31 := Aside0.mk hi331_31
                                      have HC331_31 := Aside0.mk hl331_31
                                      clear hi331_31 hl331_31
                                      replace p331 := eq_true p331
                                      replace q331 := eq_true q331
                                      have p332 : 0 ≤ ((rd ((rd_T48 t312 a1).f1) x13_2) : Int) := of_decide_eq_true (by first | (with_reducible assumption) | assumption)
                                      have q332 : (rd ((rd_T48 t312 a1).f1) x13_2) < (t312.length : Int) := of_decide_eq_true (by first | (with_reducible assumption) | assumption)
                                      obtain ⟨ad332, A332_1, c332_1, A332_31, c332_31, e332, hx332_0, hx332_1, hx332_2, hx332_3, hx332_4, hx332_5, hx332_6, hx332_7, hx332_8, hx332_9, hx332_10, hx332_11, hx332_12, hx332_13, hx332_14, hx332_15, hx332_16, hx332_17, hx332_18, hx332_19, hx332_20, hx332_21, hx332_22, hx332_23, hx332_24, hx332_25, hx332_26, hx332_27, hx332_28, hx332_29, hx332_30, hx332_31, hx332_32, hx332_33, hl332_1, hi332_1, hl332_31, hi332_31⟩ := at_T48 (Kd.N_reads' HO_0.out).2.2 (rd ((rd_T48 t312 a1).f1) x13_2) p332 q332
                                      obtain rfl : ad327 = ad332 := (by injection e332)
                                      obtain ⟨ce332, hce332, hMe332, hcc332⟩ := Kd.N_get HO_0.out z48 (rd ((rd_T48 t312 a1).f1) x13_2) p332 (by first | exact q332 | exact of_decide_eq_true (by first | (with_reducible assumption) | assumption) | (have e_ := (Kd.N_reads' HO_0.out).1; omega))
                                      obtain ⟨ua332_1, uc332_1, ua332_31, uc332_31, rfl, ul332_1, ge332_1, ul332_31, ge332_31⟩ := k48_openF hMe332
                                      have hv332_1 := hcc332 1 _ rfl
                                      rw [add_field _ _ 1 (by omega)] at hv332_1
                                      replace hv332_1 := Option.some.inj (hv332_1.symm.trans hx332_1)
                                      injection hv332_1 with hva_ hvn_ hvc_
                                      rw [hva_] at ge332_1
                                      rw [hvc_] at ul332_1
                                      have HL332_1 := Aside0.mk (show Kd.V (Kd.int .i64) 3 _ w.heap.size _ _ ((rd_T48 t312 (rd ((rd_T48 t312 a1).f1) x13_2)).f1) from Kd.V_mk ul332_1 ge332_1)
                                      clear hva_ hvn_ hvc_ ge332_1 ul332_1
                                      have hv332_31 := hcc332 31 _ rfl
                                      rw [add_field _ _ 31 (by omega)] at hv332_31
                                      replace hv332_31 := Option.some.inj (hv332_31.symm.trans hx332_31)
                                      injection hv332_31 with hva_ hvn_ hvc_
                                      rw [hva_] at ge332_31
                                      rw [hvc_] at ul332_31
                                      have HL332_31 := Aside0.mk (show Kd.V (Kd.int .i64) 2 _ w.heap.size _ _ ((rd_T48 t312 (rd ((rd_T48 t312 a1).f1) x13_2)).f3) from Kd.V_mk ul332_31 ge332_31)
                                      clear hva_ hvn_ hvc_ ge332_31 ul332_31
                                      clear hcc332 hce332
                                      have HR332_1 := Aside0.mk hi332_1
                                      have HC332_1 := Aside0.mk hl332_1
                                      clear hi332_1 hl332_1
                                      have HR332_31 := Aside0.mk hi332_31
                                      have HC332_31 := Aside0.mk hl332_31
                                      clear hi332_31 hl332_31
                                      replace p332 := eq_true p332
                                      replace q332 := eq_true q332
                                      have ea_ := Option.some.inj (hx331_1.symm.trans hx332_1)
                                      injection ea_ with ea_ en_ ec_
                                      subst ea_
                                      subst ec_
                                      clear en_
                                      have ea_ := Option.some.inj (hx331_31.symm.trans hx332_31)
                                      injection ea_ with ea_ en_ ec_
                                      subst ea_
                                      subst ec_
                                      clear en_
                                      have p333 : 0 ≤ ((rd ((rd_T48 t312 a1).f1) x13_2) : Int) := of_decide_eq_true (by first | (with_reducible assumption) | assumption)
                                      have q333 : (rd ((rd_T48 t312 a1).f1) x13_2) < (t312.length : Int) := of_decide_eq_true (by first | (with_reducible assumption) | assumption)
                                      obtain ⟨ad333, A333_1, c333_1, A333_31, c333_31, e333, hx333_0, hx333_1, hx333_2, hx333_3, hx333_4, hx333_5, hx333_6, hx333_7, hx333_8, hx333_9, hx333_10, hx333_11, hx333_12, hx333_13, hx333_14, hx333_15, hx333_16, hx333_17, hx333_18, hx333_19, hx333_20, hx333_21, hx333_22, hx333_23, hx333_24, hx333_25, hx333_26, hx333_27, hx333_28, hx333_29, hx333_30, hx333_31, hx333_32, hx333_33, hl333_1, hi333_1, hl333_31, hi333_31⟩ := at_T48 (Kd.N_reads' HO_0.out).2.2 (rd ((rd_T48 t312 a1).f1) x13_2) p333 q333
                                      obtain rfl : ad327 = ad333 := (by injection e333)
                                      obtain ⟨ce333, hce333, hMe333, hcc333⟩ := Kd.N_get HO_0.out z48 (rd ((rd_T48 t312 a1).f1) x13_2) p333 (by first | exact q333 | exact of_decide_eq_true (by first | (with_reducible assumption) | assumption) | (have e_ := (Kd.N_reads' HO_0.out).1; omega))
                                      obtain ⟨ua333_1, uc333_1, ua333_31, uc333_31, rfl, ul333_1, ge333_1, ul333_31, ge333_31⟩ := k48_openF hMe333
                                      have hv333_1 := hcc333 1 _ rfl
                                      rw [add_field _ _ 1 (by omega)] at hv333_1
                                      replace hv333_1 := Option.some.inj (hv333_1.symm.trans hx333_1)
                                      injection hv333_1 with hva_ hvn_ hvc_
                                      rw [hva_] at ge333_1
                                      rw [hvc_] at ul333_1
                                      have HL333_1 := Aside0.mk (show Kd.V (Kd.int .i64) 3 _ w.heap.size _ _ ((rd_T48 t312 (rd ((rd_T48 t312 a1).f1) x13_2)).f1) from Kd.V_mk ul333_1 ge333_1)
                                      clear hva_ hvn_ hvc_ ge333_1 ul333_1
                                      have hv333_31 := hcc333 31 _ rfl
                                      rw [add_field _ _ 31 (by omega)] at hv333_31
                                      replace hv333_31 := Option.some.inj (hv333_31.symm.trans hx333_31)
                                      injection hv333_31 with hva_ hvn_ hvc_
                                      rw [hva_] at ge333_31
                                      rw [hvc_] at ul333_31
                                      have HL333_31 := Aside0.mk (show Kd.V (Kd.int .i64) 2 _ w.heap.size _ _ ((rd_T48 t312 (rd ((rd_T48 t312 a1).f1) x13_2)).f3) from Kd.V_mk ul333_31 ge333_31)
                                      clear hva_ hvn_ hvc_ ge333_31 ul333_31
                                      clear hcc333 hce333
                                      have HR333_1 := Aside0.mk hi333_1
                                      have HC333_1 := Aside0.mk hl333_1
                                      clear hi333_1 hl333_1
                                      have HR333_31 := Aside0.mk hi333_31
                                      have HC333_31 := Aside0.mk hl333_31
                                      clear hi333_31 hl333_31
                                      replace p333 := eq_true p333
                                      replace q333 := eq_true q333
                                      have ea_ := Option.some.inj (hx331_1.symm.trans hx333_1)
                                      injection ea_ with ea_ en_ ec_
                                      subst ea_
                                      subst ec_
                                      clear en_
                                      have ea_ := Option.some.inj (hx331_31.symm.trans hx333_31)
                                      injection ea_ with ea_ en_ ec_
                                      subst ea_
                                      subst ec_
                                      clear en_
                                      go_wp2
                                      go_meet
                                      case rel => exact ⟨_, (decide (((rd_T48 t312 (rd ((rd_T48 t312 a1).f1) x13_2)).f0) ≤ 8)), (by first | rfl | (simp; done) | (simp [*]; done)), H', ⟨by have := HK1.out; have := HK2.out; have := HJ41.out; have := HK4.out; first | omega | exact Nat.le_refl _⟩, ⟨by (with_reducible repeat (first | apply Kd.N_alloc | apply Kd.N_drewN | apply Kd.N_drew)); exact HO_0.out⟩, ⟨by (with_reducible repeat (first | apply Kd.R_alloc | apply Kd.R_drewN | apply Kd.R_drew)); exact HO_6.out⟩, ⟨by (with_reducible repeat (first | apply Kd.R_alloc | apply Kd.R_drewN | apply Kd.R_drew)); exact HO_8.out⟩, ⟨by repeat (first | (with_reducible exact HR327_1.out) | (with_reducible refine Kd.C_alloc ?_ _) | (with_reducible refine Kd.C_drewN ?_ _) | (with_reducible refine Kd.C_drew ?_) | exact HR327_1.out)⟩, ⟨by repeat (first | (with_reducible exact HR327_31.out) | (with_reducible refine Kd.C_alloc ?_ _) | (with_reducible refine Kd.C_drewN ?_ _) | (with_reducible refine Kd.C_drew ?_) | exact HR327_31.out)⟩, ⟨by repeat (first | (with_reducible exact HR328_1.out) | (with_reducible refine Kd.C_alloc ?_ _) | (with_reducible refine Kd.C_drewN ?_ _) | (with_reducible refine Kd.C_drew ?_) | exact HR328_1.out)⟩, ⟨by repeat (first | (with_reducible exact HR328_31.out) | (with_reducible refine Kd.C_alloc ?_ _) | (with_reducible refine Kd.C_drewN ?_ _) | (with_reducible refine Kd.C_drew ?_) | exact HR328_31.out)⟩, ⟨by repeat (first | (with_reducible exact HR330_1.out) | (with_reducible refine Kd.C_alloc ?_ _) | (with_reducible refine Kd.C_drewN ?_ _) | (with_reducible refine Kd.C_drew ?_) | exact HR330_1.out)⟩, ⟨by repeat (first | (with_reducible exact HR330_31.out) | (with_reducible refine Kd.C_alloc ?_ _) | (with_reducible refine Kd.C_drewN ?_ _) | (with_reducible refine Kd.C_drew ?_) | exact HR330_31.out)⟩, ⟨by repeat (first | (with_reducible first | exact HB.out | apply below_alloc | apply pw_below_drewN | apply below_drew1) | exact HB.out)⟩⟩
                                    · rw [if_neg c48] at H
                                      have c48b0 : decide (6 ≤ ((rd_T48 t312 (rd ((rd_T48 t312 a1).f1) x13_2)).f0)) = false := decide_eq_false c48
                                      clear c48
                                      have H' := Aside0.mk H
                                      clear H
                                      have p331 : 0 ≤ ((rd ((rd_T48 t312 a1).f1) x13_2) : Int) := of_decide_eq_true (by first | (with_reducible assumption) | assumption)
                                      have q331 : (rd ((rd_T48 t312 a1).f1) x13_2) < (t312.length : Int) := of_decide_eq_true (by first | (with_reducible assumption) | assumption)
                                      obtain ⟨ad331, A331_1, c331_1, A331_31, c331_31, e331, hx331_0, hx331_1, hx331_2, hx331_3, hx331_4, hx331_5, hx331_6, hx331_7, hx331_8, hx331_9, hx331_10, hx331_11, hx331_12, hx331_13, hx331_14, hx331_15, hx331_16, hx331_17, hx331_18, hx331_19, hx331_20, hx331_21, hx331_22, hx331_23, hx331_24, hx331_25, hx331_26, hx331_27, hx331_28, hx331_29, hx331_30, hx331_31, hx331_32, hx331_33, hl331_1, hi331_1, hl331_31, hi331_31⟩ := at_T48 (Kd.N_reads' HO_0.out).2.2 (rd ((rd_T48 t312 a1).f1) x13_2) p331 q331
                                      obtain rfl : ad327 = ad331 := (by injection e331)
                                      obtain ⟨ce331, hce331, hMe331, hcc331⟩ := Kd.N_get HO_0.out z48 (rd ((rd_T48 t312 a1).f1) x13_2) p331 (by first | exact q331 | exact of_decide_eq_true (by first | (with_reducible assumption) | assumption) | (have e_ := (Kd.N_reads' HO_0.out).1; omega))
                                      obtain ⟨ua331_1, uc331_1, ua331_31, uc331_31, rfl, ul331_1, ge331_1, ul331_31, ge331_31⟩ := k48_openF hMe331
                                      have hv331_1 := hcc331 1 _ rfl
                                      rw [add_field _ _ 1 (by omega)] at hv331_1
                                      replace hv331_1 := Option.some.inj (hv331_1.symm.trans hx331_1)
                                      injection hv331_1 with hva_ hvn_ hvc_
                                      rw [hva_] at ge331_1
                                      rw [hvc_] at ul331_1
                                      have HL331_1 := Aside0.mk (show Kd.V (Kd.int .i64) 3 _ w.heap.size _ _ ((rd_T48 t312 (rd ((rd_T48 t312 a1).f1) x13_2)).f1) from Kd.V_mk ul331_1 ge331_1)
                                      clear hva_ hvn_ hvc_ ge331_1 ul331_1
                                      have hv331_31 := hcc331 31 _ rfl
                                      rw [add_field _ _ 31 (by omega)] at hv331_31
                                      replace hv331_31 := Option.some.inj (hv331_31.symm.trans hx331_31)
                                      injection hv331_31 with hva_ hvn_ hvc_
                                      rw [hva_] at ge331_31
                                      rw [hvc_] at ul331_31
                                      have HL331_31 := Aside0.mk (show Kd.V (Kd.int .i64) 2 _ w.heap.size _ _ ((rd_T48 t312 (rd ((rd_T48 t312 a1).f1) x13_2)).f3) from Kd.V_mk ul331_31 ge331_31)
                                      clear hva_ hvn_ hvc_ ge331_31 ul331_31
                                      clear hcc331 hce331
                                      have HR331_1 := Aside0.mk hi331_1
                                      have HC331_1 := Aside0.mk hl331_1
                                      clear hi331_1 hl331_1
                                      have HR331_31 := Aside0.mk hi331_31
                                      have HC331_31 := Aside0.mk hl331_31
                                      clear hi331_31 hl331_31
                                      replace p331 := eq_true p331
                                      replace q331 := eq_true q331
                                      have p332 : 0 ≤ ((rd ((rd_T48 t312 a1).f1) x13_2) : Int) := of_decide_eq_true (by first | (with_reducible assumption) | assumption)
                                      have q332 : (rd ((rd_T48 t312 a1).f1) x13_2) < (t312.length : Int) := of_decide_eq_true (by first | (with_reducible assumption) | assumption)
                                      obtain ⟨ad332, A332_1, c332_1, A332_31, c332_31, e332, hx332_0, hx332_1, hx332_2, hx332_3, hx332_4, hx332_5, hx332_6, hx332_7, hx332_8, hx332_9, hx332_10, hx332_11, hx332_12, hx332_13, hx332_14, hx332_15, hx332_16, hx332_17, hx332_18, hx332_19, hx332_20, hx332_21, hx332_22, hx332_23, hx332_24, hx332_25, hx332_26, hx332_27, hx332_28, hx332_29, hx332_30, hx332_31, hx332_32, hx332_33, hl332_1, hi332_1, hl332_31, hi332_31⟩ := at_T48 (Kd.N_reads' HO_0.out).2.2 (rd ((rd_T48 t312 a1).f1) x13_2) p332 q332
                                      obtain rfl : ad327 = ad332 := (by injection e332)
                                      obtain ⟨ce332, hce332, hMe332, hcc332⟩ := Kd.N_get HO_0.out z48 (rd ((rd_T48 t312 a1).f1) x13_2) p332 (by first | exact q332 | exact of_decide_eq_true (by first | (with_reducible assumption) | assumption) | (have e_ := (Kd.N_reads' HO_0.out).1; omega))
                                      obtain ⟨ua332_1, uc332_1, ua332_31, uc332_31, rfl, ul332_1, ge332_1, ul332_31, ge332_31⟩ := k48_openF hMe332
                                      have hv332_1 := hcc332 1 _ rfl
                                      rw [add_field _ _ 1 (by omega)] at hv332_1
                                      replace hv332_1 := Option.some.inj (hv332_1.symm.trans hx332_1)
                                      injection hv332_1 with hva_ hvn_ hvc_
                                      rw [hva_] at ge332_1
                                      rw [hvc_] at ul332_1
                                      have HL332_1 := Aside0.mk (show Kd.V (Kd.int .i64) 3 _ w.heap.size _ _ ((rd_T48 t312 (rd ((rd_T48 t312 a1).f1) x13_2)).f1) from Kd.V_mk ul332_1 ge332_1)
                                      clear hva_ hvn_ hvc_ ge332_1 ul332_1
                                      have hv332_31 := hcc332 31 _ rfl
                                      rw [add_field _ _ 31 (by omega)] at hv332_31
                                      replace hv332_31 := Option.some.inj (hv332_31.symm.trans hx332_31)
                                      injection hv332_31 with hva_ hvn_ hvc_
                                      rw [hva_] at ge332_31
                                      rw [hvc_] at ul332_31
                                      have HL332_31 := Aside0.mk (show Kd.V (Kd.int .i64) 2 _ w.heap.size _ _ ((rd_T48 t312 (rd ((rd_T48 t312 a1).f1) x13_2)).f3) from Kd.V_mk ul332_31 ge332_31)
                                      clear hva_ hvn_ hvc_ ge332_31 ul332_31
                                      clear hcc332 hce332
                                      have HR332_1 := Aside0.mk hi332_1
                                      have HC332_1 := Aside0.mk hl332_1
                                      clear hi332_1 hl332_1
                                      have HR332_31 := Aside0.mk hi332_31
                                      have HC332_31 := Aside0.mk hl332_31
                                      clear hi332_31 hl332_31
                                      replace p332 := eq_true p332
                                      replace q332 := eq_true q332
                                      have ea_ := Option.some.inj (hx331_1.symm.trans hx332_1)
                                      injection ea_ with ea_ en_ ec_
                                      subst ea_
                                      subst ec_
                                      clear en_
                                      have ea_ := Option.some.inj (hx331_31.symm.trans hx332_31)
                                      injection ea_ with ea_ en_ ec_
                                      subst ea_
                                      subst ec_
                                      clear en_
                                      go_wp2
                                      go_meet
                                      case rel => exact ⟨_, (false), (by first | rfl | (simp; done) | (simp [*]; done)), H', ⟨by have := HK1.out; have := HK2.out; have := HJ41.out; have := HK4.out; first | omega | exact Nat.le_refl _⟩, ⟨by (with_reducible repeat (first | apply Kd.N_alloc | apply Kd.N_drewN | apply Kd.N_drew)); exact HO_0.out⟩, ⟨by (with_reducible repeat (first | apply Kd.R_alloc | apply Kd.R_drewN | apply Kd.R_drew)); exact HO_6.out⟩, ⟨by (with_reducible repeat (first | apply Kd.R_alloc | apply Kd.R_drewN | apply Kd.R_drew)); exact HO_8.out⟩, ⟨by repeat (first | (with_reducible exact HR327_1.out) | (with_reducible refine Kd.C_alloc ?_ _) | (with_reducible refine Kd.C_drewN ?_ _) | (with_reducible refine Kd.C_drew ?_) | exact HR327_1.out)⟩, ⟨by repeat (first | (with_reducible exact HR327_31.out) | (with_reducible refine Kd.C_alloc ?_ _) | (with_reducible refine Kd.C_drewN ?_ _) | (with_reducible refine Kd.C_drew ?_) | exact HR327_31.out)⟩, ⟨by repeat (first | (with_reducible exact HR328_1.out) | (with_reducible refine Kd.C_alloc ?_ _) | (with_reducible refine Kd.C_drewN ?_ _) | (with_reducible refine Kd.C_drew ?_) | exact HR328_1.out)⟩, ⟨by repeat (first | (with_reducible exact HR328_31.out) | (with_reducible refine Kd.C_alloc ?_ _) | (with_reducible refine Kd.C_drewN ?_ _) | (with_reducible refine Kd.C_drew ?_) | exact HR328_31.out)⟩, ⟨by repeat (first | (with_reducible exact HR330_1.out) | (with_reducible refine Kd.C_alloc ?_ _) | (with_reducible refine Kd.C_drewN ?_ _) | (with_reducible refine Kd.C_drew ?_) | exact HR330_1.out)⟩, ⟨by repeat (first | (with_reducible exact HR330_31.out) | (with_reducible refine Kd.C_alloc ?_ _) | (with_reducible refine Kd.C_drewN ?_ _) | (with_reducible refine Kd.C_drew ?_) | exact HR330_31.out)⟩, ⟨by repeat (first | (with_reducible first | exact HB.out | apply below_alloc | apply pw_below_drewN | apply below_drew1) | exact HB.out)⟩⟩
                                  · rw [if_neg c47] at H
                                    have c47b0 : decide (x15_4 < (((rd_T48 t312 (rd ((rd_T48 t312 a1).f1) x13_2)).f1).length : Int)) = false := decide_eq_false c47
                                    clear c47
                                    have H' := Aside0.mk H
                                    clear H
                                    have p331 : 0 ≤ ((rd ((rd_T48 t312 a1).f1) x13_2) : Int) := of_decide_eq_true (by first | (with_reducible assumption) | assumption)
                                    have q331 : (rd ((rd_T48 t312 a1).f1) x13_2) < (t312.length : Int) := of_decide_eq_true (by first | (with_reducible assumption) | assumption)
                                    obtain ⟨ad331, A331_1, c331_1, A331_31, c331_31, e331, hx331_0, hx331_1, hx331_2, hx331_3, hx331_4, hx331_5, hx331_6, hx331_7, hx331_8, hx331_9, hx331_10, hx331_11, hx331_12, hx331_13, hx331_14, hx331_15, hx331_16, hx331_17, hx331_18, hx331_19, hx331_20, hx331_21, hx331_22, hx331_23, hx331_24, hx331_25, hx331_26, hx331_27, hx331_28, hx331_29, hx331_30, hx331_31, hx331_32, hx331_33, hl331_1, hi331_1, hl331_31, hi331_31⟩ := at_T48 (Kd.N_reads' HO_0.out).2.2 (rd ((rd_T48 t312 a1).f1) x13_2) p331 q331
                                    obtain rfl : ad327 = ad331 := (by injection e331)
                                    obtain ⟨ce331, hce331, hMe331, hcc331⟩ := Kd.N_get HO_0.out z48 (rd ((rd_T48 t312 a1).f1) x13_2) p331 (by first | exact q331 | exact of_decide_eq_true (by first | (with_reducible assumption) | assumption) | (have e_ := (Kd.N_reads' HO_0.out).1; omega))
                                    obtain ⟨ua331_1, uc331_1, ua331_31, uc331_31, rfl, ul331_1, ge331_1, ul331_31, ge331_31⟩ := k48_openF hMe331
                                    have hv331_1 := hcc331 1 _ rfl
                                    rw [add_field _ _ 1 (by omega)] at hv331_1
                                    replace hv331_1 := Option.some.inj (hv331_1.symm.trans hx331_1)
                                    injection hv331_1 with hva_ hvn_ hvc_
                                    rw [hva_] at ge331_1
                                    rw [hvc_] at ul331_1
                                    have HL331_1 := Aside0.mk (show Kd.V (Kd.int .i64) 3 _ w.heap.size _ _ ((rd_T48 t312 (rd ((rd_T48 t312 a1).f1) x13_2)).f1) from Kd.V_mk ul331_1 ge331_1)
                                    clear hva_ hvn_ hvc_ ge331_1 ul331_1
                                    have hv331_31 := hcc331 31 _ rfl
                                    rw [add_field _ _ 31 (by omega)] at hv331_31
                                    replace hv331_31 := Option.some.inj (hv331_31.symm.trans hx331_31)
                                    injection hv331_31 with hva_ hvn_ hvc_
                                    rw [hva_] at ge331_31
                                    rw [hvc_] at ul331_31
                                    have HL331_31 := Aside0.mk (show Kd.V (Kd.int .i64) 2 _ w.heap.size _ _ ((rd_T48 t312 (rd ((rd_T48 t312 a1).f1) x13_2)).f3) from Kd.V_mk ul331_31 ge331_31)
                                    clear hva_ hvn_ hvc_ ge331_31 ul331_31
                                    clear hcc331 hce331
                                    have HR331_1 := Aside0.mk hi331_1
                                    have HC331_1 := Aside0.mk hl331_1
                                    clear hi331_1 hl331_1
                                    have HR331_31 := Aside0.mk hi331_31
                                    have HC331_31 := Aside0.mk hl331_31
                                    clear hi331_31 hl331_31
                                    replace p331 := eq_true p331
                                    replace q331 := eq_true q331
                                    go_wp2
                                    go_meet
                                    case rel => exact ⟨_, (false), (by first | rfl | (simp; done) | (simp [*]; done)), H', ⟨by have := HK1.out; have := HK2.out; have := HJ41.out; have := HK4.out; first | omega | exact Nat.le_refl _⟩, ⟨by (with_reducible repeat (first | apply Kd.N_alloc | apply Kd.N_drewN | apply Kd.N_drew)); exact HO_0.out⟩, ⟨by (with_reducible repeat (first | apply Kd.R_alloc | apply Kd.R_drewN | apply Kd.R_drew)); exact HO_6.out⟩, ⟨by (with_reducible repeat (first | apply Kd.R_alloc | apply Kd.R_drewN | apply Kd.R_drew)); exact HO_8.out⟩, ⟨by repeat (first | (with_reducible exact HR327_1.out) | (with_reducible refine Kd.C_alloc ?_ _) | (with_reducible refine Kd.C_drewN ?_ _) | (with_reducible refine Kd.C_drew ?_) | exact HR327_1.out)⟩, ⟨by repeat (first | (with_reducible exact HR327_31.out) | (with_reducible refine Kd.C_alloc ?_ _) | (with_reducible refine Kd.C_drewN ?_ _) | (with_reducible refine Kd.C_drew ?_) | exact HR327_31.out)⟩, ⟨by repeat (first | (with_reducible exact HR328_1.out) | (with_reducible refine Kd.C_alloc ?_ _) | (with_reducible refine Kd.C_drewN ?_ _) | (with_reducible refine Kd.C_drew ?_) | exact HR328_1.out)⟩, ⟨by repeat (first | (with_reducible exact HR328_31.out) | (with_reducible refine Kd.C_alloc ?_ _) | (with_reducible refine Kd.C_drewN ?_ _) | (with_reducible refine Kd.C_drew ?_) | exact HR328_31.out)⟩, ⟨by repeat (first | (with_reducible exact HR330_1.out) | (with_reducible refine Kd.C_alloc ?_ _) | (with_reducible refine Kd.C_drewN ?_ _) | (with_reducible refine Kd.C_drew ?_) | exact HR330_1.out)⟩, ⟨by repeat (first | (with_reducible exact HR330_31.out) | (with_reducible refine Kd.C_alloc ?_ _) | (with_reducible refine Kd.C_drewN ?_ _) | (with_reducible refine Kd.C_drew ?_) | exact HR330_31.out)⟩, ⟨by repeat (first | (with_reducible first | exact HB.out | apply below_alloc | apply pw_below_drewN | apply below_drew1) | exact HB.out)⟩⟩
                                · rw [if_neg c46] at H
                                  exact absurd H (by simp)
                              · rw [if_neg c45] at H
                                exact absurd H (by simp)
                             case rest =>
                              clear HC44
                              try clear c1
                              try clear c2
                              try clear p2
                              try clear q2
                              try clear hx2
                              try clear hf2
                              try clear c3
                              try clear p3
                              try clear q3
                              try clear hx3
                              try clear c4
                              try clear c6
                              try clear c6b0
                              try clear c6b1
                              try clear p6
                              try clear c7
                              try clear c7b0
                              try clear c7b1
                              try clear c8
                              try clear c8b0
                              try clear c8b1
                              try clear c10
                              try clear c11
                              try clear c15
                              try clear c15b0
                              try clear c16
                              try clear c16b0
                              try clear c17
                              try clear c17b0
                              try clear c19
                              try clear c19b0
                              try clear c21
                              try clear c21b0
                              try clear c22
                              try clear c22b0
                              try clear c23
                              try clear c23b0
                              try clear c23b1
                              try clear c24
                              try clear c24b0
                              try clear c26
                              try clear c26b0
                              try clear c28
                              try clear c28b0
                              try clear p29
                              try clear q29
                              try clear hx29
                              try clear hf29
                              try clear c32
                              try clear p32
                              try clear q32
                              try clear hx32
                              try clear c33
                              try clear p33
                              try clear q33
                              try clear hx33
                              try clear c36
                              try clear c36b0
                              try clear c37
                              try clear c37b0
                              try clear c38
                              try clear c38b0
                              try clear c39
                              try clear c39b0
                              try clear c40
                              try clear c40b0
                              try clear c41
                              try clear c41b0
                              try clear c43
                              try clear c43b0
                              try clear c43b1
                              try clear c45
                              try clear c45b0
                              try clear c46
                              try clear c46b0
                              try clear c47
                              try clear c47b0
                              try clear c48
                              try clear c48b0
                              try clear hx29_0
                              try clear hx322_0
                              try clear hx322_1
                              try clear hx323_0
                              try clear hx323_1
                              try clear hx324_0
                              try clear hx324_1
                              try clear hx324_10
                              try clear hx324_11
                              try clear hx324_12
                              try clear hx324_13
                              try clear hx324_14
                              try clear hx324_15
                              try clear hx324_16
                              try clear hx324_17
                              try clear hx324_18
                              try clear hx324_19
                              try clear hx324_2
                              try clear hx324_20
                              try clear hx324_21
                              try clear hx324_22
                              try clear hx324_23
                              try clear hx324_24
                              try clear hx324_25
                              try clear hx324_26
                              try clear hx324_27
                              try clear hx324_28
                              try clear hx324_29
                              try clear hx324_3
                              try clear hx324_30
                              try clear hx324_31
                              try clear hx324_32
                              try clear hx324_33
                              try clear hx324_4
                              try clear hx324_5
                              try clear hx324_6
                              try clear hx324_7
                              try clear hx324_8
                              try clear hx324_9
                              try clear hx325_0
                              try clear hx327_0
                              try clear hx327_1
                              try clear hx327_10
                              try clear hx327_11
                              try clear hx327_12
                              try clear hx327_13
                              try clear hx327_14
                              try clear hx327_15
                              try clear hx327_16
                              try clear hx327_17
                              try clear hx327_18
                              try clear hx327_19
                              try clear hx327_2
                              try clear hx327_20
                              try clear hx327_21
                              try clear hx327_22
                              try clear hx327_23
                              try clear hx327_24
                              try clear hx327_25
                              try clear hx327_26
                              try clear hx327_27
                              try clear hx327_28
                              try clear hx327_29
                              try clear hx327_3
                              try clear hx327_30
                              try clear hx327_31
                              try clear hx327_32
                              try clear hx327_33
                              try clear hx327_4
                              try clear hx327_5
                              try clear hx327_6
                              try clear hx327_7
                              try clear hx327_8
                              try clear hx327_9
                              try clear hx328_0
                              try clear hx328_1
                              try clear hx328_10
                              try clear hx328_11
                              try clear hx328_12
                              try clear hx328_13
                              try clear hx328_14
                              try clear hx328_15
                              try clear hx328_16
                              try clear hx328_17
                              try clear hx328_18
                              try clear hx328_19
                              try clear hx328_2
                              try clear hx328_20
                              try clear hx328_21
                              try clear hx328_22
                              try clear hx328_23
                              try clear hx328_24
                              try clear hx328_25
                              try clear hx328_26
                              try clear hx328_27
                              try clear hx328_28
                              try clear hx328_29
                              try clear hx328_3
                              try clear hx328_30
                              try clear hx328_31
                              try clear hx328_32
                              try clear hx328_33
                              try clear hx328_4
                              try clear hx328_5
                              try clear hx328_6
                              try clear hx328_7
                              try clear hx328_8
                              try clear hx328_9
                              try clear hx329_0
                              try clear hx330_0
                              try clear hx330_1
                              try clear hx330_10
                              try clear hx330_11
                              try clear hx330_12
                              try clear hx330_13
                              try clear hx330_14
                              try clear hx330_15
                              try clear hx330_16
                              try clear hx330_17
                              try clear hx330_18
                              try clear hx330_19
                              try clear hx330_2
                              try clear hx330_20
                              try clear hx330_21
                              try clear hx330_22
                              try clear hx330_23
                              try clear hx330_24
                              try clear hx330_25
                              try clear hx330_26
                              try clear hx330_27
                              try clear hx330_28
                              try clear hx330_29
                              try clear hx330_3
                              try clear hx330_30
                              try clear hx330_31
                              try clear hx330_32
                              try clear hx330_33
                              try clear hx330_4
                              try clear hx330_5
                              try clear hx330_6
                              try clear hx330_7
                              try clear hx330_8
                              try clear hx330_9
                              try clear hx331_0
                              try clear hx331_1
                              try clear hx331_10
                              try clear hx331_11
                              try clear hx331_12
                              try clear hx331_13
                              try clear hx331_14
                              try clear hx331_15
                              try clear hx331_16
                              try clear hx331_17
                              try clear hx331_18
                              try clear hx331_19
                              try clear hx331_2
                              try clear hx331_20
                              try clear hx331_21
                              try clear hx331_22
                              try clear hx331_23
                              try clear hx331_24
                              try clear hx331_25
                              try clear hx331_26
                              try clear hx331_27
                              try clear hx331_28
                              try clear hx331_29
                              try clear hx331_3
                              try clear hx331_30
                              try clear hx331_31
                              try clear hx331_32
                              try clear hx331_33
                              try clear hx331_4
                              try clear hx331_5
                              try clear hx331_6
                              try clear hx331_7
                              try clear hx331_8
                              try clear hx331_9
                              try clear hx332_0
                              try clear hx332_1
                              try clear hx332_10
                              try clear hx332_11
                              try clear hx332_12
                              try clear hx332_13
                              try clear hx332_14
                              try clear hx332_15
                              try clear hx332_16
                              try clear hx332_17
                              try clear hx332_18
                              try clear hx332_19
                              try clear hx332_2
                              try clear hx332_20
                              try clear hx332_21
                              try clear hx332_22
                              try clear hx332_23
                              try clear hx332_24
                              try clear hx332_25
                              try clear hx332_26
                              try clear hx332_27
                              try clear hx332_28
                              try clear hx332_29
                              try clear hx332_3
                              try clear hx332_30
                              try clear hx332_31
                              try clear hx332_32
                              try clear hx332_33
                              try clear hx332_4
                              try clear hx332_5
                              try clear hx332_6
                              try clear hx332_7
                              try clear hx332_8
                              try clear hx332_9
                              try clear hx333_0
                              try clear hx333_1
                              try clear hx333_10
                              try clear hx333_11
                              try clear hx333_12
                              try clear hx333_13
                              try clear hx333_14
                              try clear hx333_15
                              try clear hx333_16
                              try clear hx333_17
                              try clear hx333_18
                              try clear hx333_19
                              try clear hx333_2
                              try clear hx333_20
                              try clear hx333_21
                              try clear hx333_22
                              try clear hx333_23
                              try clear hx333_24
                              try clear hx333_25
                              try clear hx333_26
                              try clear hx333_27
                              try clear hx333_28
                              try clear hx333_29
                              try clear hx333_3
                              try clear hx333_30
                              try clear hx333_31
                              try clear hx333_32
                              try clear hx333_33
                              try clear hx333_4
                              try clear hx333_5
                              try clear hx333_6
                              try clear hx333_7
                              try clear hx333_8
                              try clear hx333_9
                              try clear p2
                              try clear p29
                              try clear p3
                              try clear p32
                              try clear p322
                              try clear p323
                              try clear p324
                              try clear p325
                              try clear p327
                              try clear p328
                              try clear p329
                              try clear p33
                              try clear p330
                              try clear p331
                              try clear p332
                              try clear p333
                              try clear p6
                              try clear q2
                              try clear q29
                              try clear q3
                              try clear q32
                              try clear q322
                              try clear q323
                              try clear q324
                              try clear q325
                              try clear q327
                              try clear q328
                              try clear q329
                              try clear q33
                              try clear q330
                              try clear q331
                              try clear q332
                              try clear q333
                              obtain ⟨kq, x129_43, rfl, HA, HJ43, HO_0, HO_6, HO_8, HR327_1, HR327_31, HR328_1, HR328_31, HR330_1, HR330_31, HB⟩ := hcut
                              cases kq with
                              | zero => exact absurd HA.out (by simp [purflinglaw06_LanesOnce.j4])
                              | succ kj43 =>
                               have H := HA.out
                               clear HA
                               simp only [purflinglaw06_LanesOnce.j4] at H
                               by_cases c49 : x129_43 = true
                               · subst c49
                                 have H1 : (if 0 ≤ (rd ((rd_T48 t312 a1).f1) x13_2) then (if (rd ((rd_T48 t312 a1).f1) x13_2) < (t312.length : Int) then (if 0 ≤ x15_4 then (if x15_4 < (((rd_T48 t312 (rd ((rd_T48 t312 a1).f1) x13_2)).f1).length : Int) then (if 0 ≤ (rd ((rd_T48 t312 (rd ((rd_T48 t312 a1).f1) x13_2)).f1) x15_4) then (if (rd ((rd_T48 t312 (rd ((rd_T48 t312 a1).f1) x13_2)).f1) x15_4) < (t312.length : Int) then (if ((rd_T48 t312 (rd ((rd_T48 t312 (rd ((rd_T48 t312 a1).f1) x13_2)).f1) x15_4)).f0) = 9 then (purflinglaw06_LanesOnce.l2 kj43 t312 a1 t311 t315 x8_1 (wrap64 (x12_4 + 1)) x13_2 (rd ((rd_T48 t312 a1).f1) x13_2) (wrap64 (x15_4 + 1))) else (purflinglaw06_LanesOnce.l2 kj43 t312 a1 t311 t315 x8_1 x12_4 x13_2 (rd ((rd_T48 t312 a1).f1) x13_2) (wrap64 (x15_4 + 1)))) else (none)) else (none)) else (none)) else (none)) else (none)) else (none)) = some r := by rw [if_pos rfl] at H; exact H
                                 clear H
                                 have H := H1
                                 clear H1
                                 by_cases c50 : 0 ≤ (rd ((rd_T48 t312 a1).f1) x13_2)
                                 · rw [if_pos c50] at H
                                   have c50b0 : decide (0 ≤ (rd ((rd_T48 t312 a1).f1) x13_2)) = true := decide_eq_true c50
                                   clear c50
                                   by_cases c51 : (rd ((rd_T48 t312 a1).f1) x13_2) < (t312.length : Int)
                                   · rw [if_pos c51] at H
                                     have c51b0 : decide ((rd ((rd_T48 t312 a1).f1) x13_2) < (t312.length : Int)) = true := decide_eq_true c51
                                     clear c51
                                     by_cases c52 : 0 ≤ x15_4
                                     · rw [if_pos c52] at H
                                       have c52b0 : decide (0 ≤ x15_4) = true := decide_eq_true c52
                                       clear c52
                                       by_cases c53 : x15_4 < (((rd_T48 t312 (rd ((rd_T48 t312 a1).f1) x13_2)).f1).length : Int)
                                       · rw [if_pos c53] at H
                                         have c53b0 : decide (x15_4 < (((rd_T48 t312 (rd ((rd_T48 t312 a1).f1) x13_2)).f1).length : Int)) = true := decide_eq_true c53
                                         clear c53
                                         by_cases c54 : 0 ≤ (rd ((rd_T48 t312 (rd ((rd_T48 t312 a1).f1) x13_2)).f1) x15_4)
                                         · rw [if_pos c54] at H
                                           have c54b0 : decide (0 ≤ (rd ((rd_T48 t312 (rd ((rd_T48 t312 a1).f1) x13_2)).f1) x15_4)) = true := decide_eq_true c54
                                           clear c54
                                           by_cases c55 : (rd ((rd_T48 t312 (rd ((rd_T48 t312 a1).f1) x13_2)).f1) x15_4) < (t312.length : Int)
                                           · rw [if_pos c55] at H
                                             have c55b0 : decide ((rd ((rd_T48 t312 (rd ((rd_T48 t312 a1).f1) x13_2)).f1) x15_4) < (t312.length : Int)) = true := decide_eq_true c55
                                             clear c55
                                             by_cases c56 : ((rd_T48 t312 (rd ((rd_T48 t312 (rd ((rd_T48 t312 a1).f1) x13_2)).f1) x15_4)).f0) = 9
                                             · rw [if_pos c56] at H
                                               have c56b0 : (((rd_T48 t312 (rd ((rd_T48 t312 (rd ((rd_T48 t312 a1).f1) x13_2)).f1) x15_4)).f0) == 9) = true := beq_iff_eq.mpr c56
                                               have c56b1 : (((rd_T48 t312 (rd ((rd_T48 t312 (rd ((rd_T48 t312 a1).f1) x13_2)).f1) x15_4)).f0) != 9) = false := bne_eq_false_iff_eq.mpr c56
                                               clear c56
                                               have H' := Aside0.mk H
                                               clear H
                                               have p334 : 0 ≤ ((rd ((rd_T48 t312 a1).f1) x13_2) : Int) := of_decide_eq_true (by first | (with_reducible assumption) | assumption)
                                               have q334 : (rd ((rd_T48 t312 a1).f1) x13_2) < (t312.length : Int) := of_decide_eq_true (by first | (with_reducible assumption) | assumption)
                                               obtain ⟨ad334, A334_1, c334_1, A334_31, c334_31, e334, hx334_0, hx334_1, hx334_2, hx334_3, hx334_4, hx334_5, hx334_6, hx334_7, hx334_8, hx334_9, hx334_10, hx334_11, hx334_12, hx334_13, hx334_14, hx334_15, hx334_16, hx334_17, hx334_18, hx334_19, hx334_20, hx334_21, hx334_22, hx334_23, hx334_24, hx334_25, hx334_26, hx334_27, hx334_28, hx334_29, hx334_30, hx334_31, hx334_32, hx334_33, hl334_1, hi334_1, hl334_31, hi334_31⟩ := at_T48 (Kd.N_reads' HO_0.out).2.2 (rd ((rd_T48 t312 a1).f1) x13_2) p334 q334
                                               obtain rfl : ad327 = ad334 := (by injection e334)
                                               obtain ⟨ce334, hce334, hMe334, hcc334⟩ := Kd.N_get HO_0.out z48 (rd ((rd_T48 t312 a1).f1) x13_2) p334 (by first | exact q334 | exact of_decide_eq_true (by first | (with_reducible assumption) | assumption) | (have e_ := (Kd.N_reads' HO_0.out).1; omega))
                                               obtain ⟨ua334_1, uc334_1, ua334_31, uc334_31, rfl, ul334_1, ge334_1, ul334_31, ge334_31⟩ := k48_openF hMe334
                                               have hv334_1 := hcc334 1 _ rfl
                                               rw [add_field _ _ 1 (by omega)] at hv334_1
                                               replace hv334_1 := Option.some.inj (hv334_1.symm.trans hx334_1)
                                               injection hv334_1 with hva_ hvn_ hvc_
                                               rw [hva_] at ge334_1
                                               rw [hvc_] at ul334_1
                                               have HL334_1 := Aside0.mk (show Kd.V (Kd.int .i64) 3 _ w.heap.size _ _ ((rd_T48 t312 (rd ((rd_T48 t312 a1).f1) x13_2)).f1) from Kd.V_mk ul334_1 ge334_1)
                                               clear hva_ hvn_ hvc_ ge334_1 ul334_1
                                               have hv334_31 := hcc334 31 _ rfl
                                               rw [add_field _ _ 31 (by omega)] at hv334_31
                                               replace hv334_31 := Option.some.inj (hv334_31.symm.trans hx334_31)
                                               injection hv334_31 with hva_ hvn_ hvc_
                                               rw [hva_] at ge334_31
                                               rw [hvc_] at ul334_31
                                               have HL334_31 := Aside0.mk (show Kd.V (Kd.int .i64) 2 _ w.heap.size _ _ ((rd_T48 t312 (rd ((rd_T48 t312 a1).f1) x13_2)).f3) from Kd.V_mk ul334_31 ge334_31)
                                               clear hva_ hvn_ hvc_ ge334_31 ul334_31
                                               clear hcc334 hce334
                                               have HR334_1 := Aside0.mk hi334_1
                                               have HC334_1 := Aside0.mk hl334_1
                                               clear hi334_1 hl334_1
                                               have HR334_31 := Aside0.mk hi334_31
                                               have HC334_31 := Aside0.mk hl334_31
                                               clear hi334_31 hl334_31
                                               replace p334 := eq_true p334
                                               replace q334 := eq_true q334
                                               have p335 : 0 ≤ (x15_4 : Int) := of_decide_eq_true (by first | (with_reducible assumption) | assumption)
                                               have q335 : x15_4 < (((rd_T48 t312 (rd ((rd_T48 t312 a1).f1) x13_2)).f1).length : Int) := of_decide_eq_true (by first | (with_reducible assumption) | assumption)
                                               obtain ⟨ad335, e335, hx335_0⟩ := Kd.at_int (by repeat (first | (with_reducible exact HR334_1.out) | (with_reducible refine Kd.C_alloc ?_ _) | (with_reducible refine Kd.C_drewN ?_ _) | (with_reducible refine Kd.C_drew ?_) | exact HR334_1.out)) x15_4 p335 q335
                                               cases e335
                                               replace p335 := eq_true p335
                                               replace q335 := eq_true q335
                                               have p336 : 0 ≤ ((rd ((rd_T48 t312 (rd ((rd_T48 t312 a1).f1) x13_2)).f1) x15_4) : Int) := of_decide_eq_true (by first | (with_reducible assumption) | assumption)
                                               have q336 : (rd ((rd_T48 t312 (rd ((rd_T48 t312 a1).f1) x13_2)).f1) x15_4) < (t312.length : Int) := of_decide_eq_true (by first | (with_reducible assumption) | assumption)
                                               obtain ⟨ad336, A336_1, c336_1, A336_31, c336_31, e336, hx336_0, hx336_1, hx336_2, hx336_3, hx336_4, hx336_5, hx336_6, hx336_7, hx336_8, hx336_9, hx336_10, hx336_11, hx336_12, hx336_13, hx336_14, hx336_15, hx336_16, hx336_17, hx336_18, hx336_19, hx336_20, hx336_21, hx336_22, hx336_23, hx336_24, hx336_25, hx336_26, hx336_27, hx336_28, hx336_29, hx336_30, hx336_31, hx336_32, hx336_33, hl336_1, hi336_1, hl336_31, hi336_31⟩ := at_T48 (Kd.N_reads' HO_0.out).2.2 (rd ((rd_T48 t312 (rd ((rd_T48 t312 a1).f1) x13_2)).f1) x15_4) p336 q336
                                               obtain rfl : ad327 = ad336 := (by injection e336)
                                               obtain ⟨ce336, hce336, hMe336, hcc336⟩ := Kd.N_get HO_0.out z48 (rd ((rd_T48 t312 (rd ((rd_T48 t312 a1).f1) x13_2)).f1) x15_4) p336 (by first | exact q336 | exact of_decide_eq_true (by first | (with_reducible assumption) | assumption) | (have e_ := (Kd.N_reads' HO_0.out).1; omega))
                                               obtain ⟨ua336_1, uc336_1, ua336_31, uc336_31, rfl, ul336_1, ge336_1, ul336_31, ge336_31⟩ := k48_openF hMe336
                                               have hv336_1 := hcc336 1 _ rfl
                                               rw [add_field _ _ 1 (by omega)] at hv336_1
                                               replace hv336_1 := Option.some.inj (hv336_1.symm.trans hx336_1)
                                               injection hv336_1 with hva_ hvn_ hvc_
                                               rw [hva_] at ge336_1
                                               rw [hvc_] at ul336_1
                                               have HL336_1 := Aside0.mk (show Kd.V (Kd.int .i64) 3 _ w.heap.size _ _ ((rd_T48 t312 (rd ((rd_T48 t312 (rd ((rd_T48 t312 a1).f1) x13_2)).f1) x15_4)).f1) from Kd.V_mk ul336_1 ge336_1)
                                               clear hva_ hvn_ hvc_ ge336_1 ul336_1
                                               have hv336_31 := hcc336 31 _ rfl
                                               rw [add_field _ _ 31 (by omega)] at hv336_31
                                               replace hv336_31 := Option.some.inj (hv336_31.symm.trans hx336_31)
                                               injection hv336_31 with hva_ hvn_ hvc_
                                               rw [hva_] at ge336_31
                                               rw [hvc_] at ul336_31
                                               have HL336_31 := Aside0.mk (show Kd.V (Kd.int .i64) 2 _ w.heap.size _ _ ((rd_T48 t312 (rd ((rd_T48 t312 (rd ((rd_T48 t312 a1).f1) x13_2)).f1) x15_4)).f3) from Kd.V_mk ul336_31 ge336_31)
                                               clear hva_ hvn_ hvc_ ge336_31 ul336_31
                                               clear hcc336 hce336
                                               have HR336_1 := Aside0.mk hi336_1
                                               have HC336_1 := Aside0.mk hl336_1
                                               clear hi336_1 hl336_1
                                               have HR336_31 := Aside0.mk hi336_31
                                               have HC336_31 := Aside0.mk hl336_31
                                               clear hi336_31 hl336_31
                                               replace p336 := eq_true p336
                                               replace q336 := eq_true q336
                                               go_wp2
                                               go_roundg kj43
                                               case measure => have := HK1.out; have := HK2.out; have := HJ41.out; have := HK4.out; have := HJ43.out; omega
                                               case rel => exact ⟨(wrap64 (x12_4 + 1)), (wrap64 (x15_4 + 1)), (by first | rfl | (simp; done) | (simp [*]; done)), (by first | rfl | (simp; done) | (simp [*]; done)), H', ⟨by have := HK1.out; have := HK2.out; have := HJ41.out; have := HK4.out; have := HJ43.out; omega⟩, ⟨by (with_reducible repeat (first | apply Kd.N_alloc | apply Kd.N_drewN | apply Kd.N_drew)); exact HO_0.out⟩, ⟨by (with_reducible repeat (first | apply Kd.R_alloc | apply Kd.R_drewN | apply Kd.R_drew)); exact HO_6.out⟩, ⟨by (with_reducible repeat (first | apply Kd.R_alloc | apply Kd.R_drewN | apply Kd.R_drew)); exact HO_8.out⟩, ⟨by repeat (first | (with_reducible exact HR327_1.out) | (with_reducible refine Kd.C_alloc ?_ _) | (with_reducible refine Kd.C_drewN ?_ _) | (with_reducible refine Kd.C_drew ?_) | exact HR327_1.out)⟩, ⟨by repeat (first | (with_reducible exact HR327_31.out) | (with_reducible refine Kd.C_alloc ?_ _) | (with_reducible refine Kd.C_drewN ?_ _) | (with_reducible refine Kd.C_drew ?_) | exact HR327_31.out)⟩, ⟨by repeat (first | (with_reducible exact HR328_1.out) | (with_reducible refine Kd.C_alloc ?_ _) | (with_reducible refine Kd.C_drewN ?_ _) | (with_reducible refine Kd.C_drew ?_) | exact HR328_1.out)⟩, ⟨by repeat (first | (with_reducible exact HR328_31.out) | (with_reducible refine Kd.C_alloc ?_ _) | (with_reducible refine Kd.C_drewN ?_ _) | (with_reducible refine Kd.C_drew ?_) | exact HR328_31.out)⟩, ⟨by repeat (first | (with_reducible exact HR330_1.out) | (with_reducible refine Kd.C_alloc ?_ _) | (with_reducible refine Kd.C_drewN ?_ _) | (with_reducible refine Kd.C_drew ?_) | exact HR330_1.out)⟩, ⟨by repeat (first | (with_reducible exact HR330_31.out) | (with_reducible refine Kd.C_alloc ?_ _) | (with_reducible refine Kd.C_drewN ?_ _) | (with_reducible refine Kd.C_drew ?_) | exact HR330_31.out)⟩, ⟨by repeat (first | (with_reducible first | exact HB.out | apply below_alloc | apply pw_below_drewN | apply below_drew1) | exact HB.out)⟩⟩
                                             · rw [if_neg c56] at H
                                               have c56b0 : (((rd_T48 t312 (rd ((rd_T48 t312 (rd ((rd_T48 t312 a1).f1) x13_2)).f1) x15_4)).f0) == 9) = false := beq_eq_false_iff_ne.mpr c56
                                               have c56b1 : (((rd_T48 t312 (rd ((rd_T48 t312 (rd ((rd_T48 t312 a1).f1) x13_2)).f1) x15_4)).f0) != 9) = true := bne_iff_ne.mpr c56
                                               have H' := Aside0.mk H
                                               clear H
                                               have p334 : 0 ≤ ((rd ((rd_T48 t312 a1).f1) x13_2) : Int) := of_decide_eq_true (by first | (with_reducible assumption) | assumption)
                                               have q334 : (rd ((rd_T48 t312 a1).f1) x13_2) < (t312.length : Int) := of_decide_eq_true (by first | (with_reducible assumption) | assumption)
                                               obtain ⟨ad334, A334_1, c334_1, A334_31, c334_31, e334, hx334_0, hx334_1, hx334_2, hx334_3, hx334_4, hx334_5, hx334_6, hx334_7, hx334_8, hx334_9, hx334_10, hx334_11, hx334_12, hx334_13, hx334_14, hx334_15, hx334_16, hx334_17, hx334_18, hx334_19, hx334_20, hx334_21, hx334_22, hx334_23, hx334_24, hx334_25, hx334_26, hx334_27, hx334_28, hx334_29, hx334_30, hx334_31, hx334_32, hx334_33, hl334_1, hi334_1, hl334_31, hi334_31⟩ := at_T48 (Kd.N_reads' HO_0.out).2.2 (rd ((rd_T48 t312 a1).f1) x13_2) p334 q334
                                               obtain rfl : ad327 = ad334 := (by injection e334)
                                               obtain ⟨ce334, hce334, hMe334, hcc334⟩ := Kd.N_get HO_0.out z48 (rd ((rd_T48 t312 a1).f1) x13_2) p334 (by first | exact q334 | exact of_decide_eq_true (by first | (with_reducible assumption) | assumption) | (have e_ := (Kd.N_reads' HO_0.out).1; omega))
                                               obtain ⟨ua334_1, uc334_1, ua334_31, uc334_31, rfl, ul334_1, ge334_1, ul334_31, ge334_31⟩ := k48_openF hMe334
                                               have hv334_1 := hcc334 1 _ rfl
                                               rw [add_field _ _ 1 (by omega)] at hv334_1
                                               replace hv334_1 := Option.some.inj (hv334_1.symm.trans hx334_1)
                                               injection hv334_1 with hva_ hvn_ hvc_
                                               rw [hva_] at ge334_1
                                               rw [hvc_] at ul334_1
                                               have HL334_1 := Aside0.mk (show Kd.V (Kd.int .i64) 3 _ w.heap.size _ _ ((rd_T48 t312 (rd ((rd_T48 t312 a1).f1) x13_2)).f1) from Kd.V_mk ul334_1 ge334_1)
                                               clear hva_ hvn_ hvc_ ge334_1 ul334_1
                                               have hv334_31 := hcc334 31 _ rfl
                                               rw [add_field _ _ 31 (by omega)] at hv334_31
                                               replace hv334_31 := Option.some.inj (hv334_31.symm.trans hx334_31)
                                               injection hv334_31 with hva_ hvn_ hvc_
                                               rw [hva_] at ge334_31
                                               rw [hvc_] at ul334_31
                                               have HL334_31 := Aside0.mk (show Kd.V (Kd.int .i64) 2 _ w.heap.size _ _ ((rd_T48 t312 (rd ((rd_T48 t312 a1).f1) x13_2)).f3) from Kd.V_mk ul334_31 ge334_31)
                                               clear hva_ hvn_ hvc_ ge334_31 ul334_31
                                               clear hcc334 hce334
                                               have HR334_1 := Aside0.mk hi334_1
                                               have HC334_1 := Aside0.mk hl334_1
                                               clear hi334_1 hl334_1
                                               have HR334_31 := Aside0.mk hi334_31
                                               have HC334_31 := Aside0.mk hl334_31
                                               clear hi334_31 hl334_31
                                               replace p334 := eq_true p334
                                               replace q334 := eq_true q334
                                               have p335 : 0 ≤ (x15_4 : Int) := of_decide_eq_true (by first | (with_reducible assumption) | assumption)
                                               have q335 : x15_4 < (((rd_T48 t312 (rd ((rd_T48 t312 a1).f1) x13_2)).f1).length : Int) := of_decide_eq_true (by first | (with_reducible assumption) | assumption)
                                               obtain ⟨ad335, e335, hx335_0⟩ := Kd.at_int (by repeat (first | (with_reducible exact HR334_1.out) | (with_reducible refine Kd.C_alloc ?_ _) | (with_reducible refine Kd.C_drewN ?_ _) | (with_reducible refine Kd.C_drew ?_) | exact HR334_1.out)) x15_4 p335 q335
                                               cases e335
                                               replace p335 := eq_true p335
                                               replace q335 := eq_true q335
                                               have p336 : 0 ≤ ((rd ((rd_T48 t312 (rd ((rd_T48 t312 a1).f1) x13_2)).f1) x15_4) : Int) := of_decide_eq_true (by first | (with_reducible assumption) | assumption)
                                               have q336 : (rd ((rd_T48 t312 (rd ((rd_T48 t312 a1).f1) x13_2)).f1) x15_4) < (t312.length : Int) := of_decide_eq_true (by first | (with_reducible assumption) | assumption)
                                               obtain ⟨ad336, A336_1, c336_1, A336_31, c336_31, e336, hx336_0, hx336_1, hx336_2, hx336_3, hx336_4, hx336_5, hx336_6, hx336_7, hx336_8, hx336_9, hx336_10, hx336_11, hx336_12, hx336_13, hx336_14, hx336_15, hx336_16, hx336_17, hx336_18, hx336_19, hx336_20, hx336_21, hx336_22, hx336_23, hx336_24, hx336_25, hx336_26, hx336_27, hx336_28, hx336_29, hx336_30, hx336_31, hx336_32, hx336_33, hl336_1, hi336_1, hl336_31, hi336_31⟩ := at_T48 (Kd.N_reads' HO_0.out).2.2 (rd ((rd_T48 t312 (rd ((rd_T48 t312 a1).f1) x13_2)).f1) x15_4) p336 q336
                                               obtain rfl : ad327 = ad336 := (by injection e336)
                                               obtain ⟨ce336, hce336, hMe336, hcc336⟩ := Kd.N_get HO_0.out z48 (rd ((rd_T48 t312 (rd ((rd_T48 t312 a1).f1) x13_2)).f1) x15_4) p336 (by first | exact q336 | exact of_decide_eq_true (by first | (with_reducible assumption) | assumption) | (have e_ := (Kd.N_reads' HO_0.out).1; omega))
                                               obtain ⟨ua336_1, uc336_1, ua336_31, uc336_31, rfl, ul336_1, ge336_1, ul336_31, ge336_31⟩ := k48_openF hMe336
                                               have hv336_1 := hcc336 1 _ rfl
                                               rw [add_field _ _ 1 (by omega)] at hv336_1
                                               replace hv336_1 := Option.some.inj (hv336_1.symm.trans hx336_1)
                                               injection hv336_1 with hva_ hvn_ hvc_
                                               rw [hva_] at ge336_1
                                               rw [hvc_] at ul336_1
                                               have HL336_1 := Aside0.mk (show Kd.V (Kd.int .i64) 3 _ w.heap.size _ _ ((rd_T48 t312 (rd ((rd_T48 t312 (rd ((rd_T48 t312 a1).f1) x13_2)).f1) x15_4)).f1) from Kd.V_mk ul336_1 ge336_1)
                                               clear hva_ hvn_ hvc_ ge336_1 ul336_1
                                               have hv336_31 := hcc336 31 _ rfl
                                               rw [add_field _ _ 31 (by omega)] at hv336_31
                                               replace hv336_31 := Option.some.inj (hv336_31.symm.trans hx336_31)
                                               injection hv336_31 with hva_ hvn_ hvc_
                                               rw [hva_] at ge336_31
                                               rw [hvc_] at ul336_31
                                               have HL336_31 := Aside0.mk (show Kd.V (Kd.int .i64) 2 _ w.heap.size _ _ ((rd_T48 t312 (rd ((rd_T48 t312 (rd ((rd_T48 t312 a1).f1) x13_2)).f1) x15_4)).f3) from Kd.V_mk ul336_31 ge336_31)
                                               clear hva_ hvn_ hvc_ ge336_31 ul336_31
                                               clear hcc336 hce336
                                               have HR336_1 := Aside0.mk hi336_1
                                               have HC336_1 := Aside0.mk hl336_1
                                               clear hi336_1 hl336_1
                                               have HR336_31 := Aside0.mk hi336_31
                                               have HC336_31 := Aside0.mk hl336_31
                                               clear hi336_31 hl336_31
                                               replace p336 := eq_true p336
                                               replace q336 := eq_true q336
                                               go_wp2
                                               go_roundg kj43
                                               case measure => have := HK1.out; have := HK2.out; have := HJ41.out; have := HK4.out; have := HJ43.out; omega
                                               case rel => exact ⟨(x12_4), (wrap64 (x15_4 + 1)), (by first | rfl | (simp; done) | (simp [*]; done)), (by first | rfl | (simp; done) | (simp [*]; done)), H', ⟨by have := HK1.out; have := HK2.out; have := HJ41.out; have := HK4.out; have := HJ43.out; omega⟩, ⟨by (with_reducible repeat (first | apply Kd.N_alloc | apply Kd.N_drewN | apply Kd.N_drew)); exact HO_0.out⟩, ⟨by (with_reducible repeat (first | apply Kd.R_alloc | apply Kd.R_drewN | apply Kd.R_drew)); exact HO_6.out⟩, ⟨by (with_reducible repeat (first | apply Kd.R_alloc | apply Kd.R_drewN | apply Kd.R_drew)); exact HO_8.out⟩, ⟨by repeat (first | (with_reducible exact HR327_1.out) | (with_reducible refine Kd.C_alloc ?_ _) | (with_reducible refine Kd.C_drewN ?_ _) | (with_reducible refine Kd.C_drew ?_) | exact HR327_1.out)⟩, ⟨by repeat (first | (with_reducible exact HR327_31.out) | (with_reducible refine Kd.C_alloc ?_ _) | (with_reducible refine Kd.C_drewN ?_ _) | (with_reducible refine Kd.C_drew ?_) | exact HR327_31.out)⟩, ⟨by repeat (first | (with_reducible exact HR328_1.out) | (with_reducible refine Kd.C_alloc ?_ _) | (with_reducible refine Kd.C_drewN ?_ _) | (with_reducible refine Kd.C_drew ?_) | exact HR328_1.out)⟩, ⟨by repeat (first | (with_reducible exact HR328_31.out) | (with_reducible refine Kd.C_alloc ?_ _) | (with_reducible refine Kd.C_drewN ?_ _) | (with_reducible refine Kd.C_drew ?_) | exact HR328_31.out)⟩, ⟨by repeat (first | (with_reducible exact HR330_1.out) | (with_reducible refine Kd.C_alloc ?_ _) | (with_reducible refine Kd.C_drewN ?_ _) | (with_reducible refine Kd.C_drew ?_) | exact HR330_1.out)⟩, ⟨by repeat (first | (with_reducible exact HR330_31.out) | (with_reducible refine Kd.C_alloc ?_ _) | (with_reducible refine Kd.C_drewN ?_ _) | (with_reducible refine Kd.C_drew ?_) | exact HR330_31.out)⟩, ⟨by repeat (first | (with_reducible first | exact HB.out | apply below_alloc | apply pw_below_drewN | apply below_drew1) | exact HB.out)⟩⟩
                                           · rw [if_neg c55] at H
                                             exact absurd H (by simp)
                                         · rw [if_neg c54] at H
                                           exact absurd H (by simp)
                                       · rw [if_neg c53] at H
                                         exact absurd H (by simp)
                                     · rw [if_neg c52] at H
                                       exact absurd H (by simp)
                                   · rw [if_neg c51] at H
                                     exact absurd H (by simp)
                                 · rw [if_neg c50] at H
                                   exact absurd H (by simp)
                               · replace c49 := Bool.eq_false_iff.mpr c49
                                 subst c49
                                 have H1 : (purflinglaw06_LanesOnce.l1 kj43 t312 a1 t311 t315 x8_1 x12_4 (wrap64 (x13_2 + 1))) = some r := by rw [if_neg (show ¬ (false = true) by decide)] at H; exact H
                                 clear H
                                 have H := H1
                                 clear H1
                                 have H' := Aside0.mk H
                                 clear H
                                 go_wp2
                                 go_roundg kj43
                                 case measure => have := HK1.out; have := HK2.out; have := HJ41.out; have := HK4.out; have := HJ43.out; omega
                                 case rel => exact ⟨(x12_4), (wrap64 (x13_2 + 1)), (by first | rfl | (simp; done) | (simp [*]; done)), (by first | rfl | (simp; done) | (simp [*]; done)), H', ⟨by have := HK1.out; have := HK2.out; have := HJ41.out; have := HK4.out; have := HJ43.out; omega⟩, ⟨by (with_reducible repeat (first | apply Kd.N_alloc | apply Kd.N_drewN | apply Kd.N_drew)); exact HO_0.out⟩, ⟨by (with_reducible repeat (first | apply Kd.R_alloc | apply Kd.R_drewN | apply Kd.R_drew)); exact HO_6.out⟩, ⟨by (with_reducible repeat (first | apply Kd.R_alloc | apply Kd.R_drewN | apply Kd.R_drew)); exact HO_8.out⟩, ⟨by repeat (first | (with_reducible first | exact HB.out | apply below_alloc | apply pw_below_drewN | apply below_drew1) | exact HB.out)⟩⟩
                       · rw [if_neg c41] at H
                         exact absurd H (by simp)
                     · rw [if_neg c40] at H
                       exact absurd H (by simp)
                   · rw [if_neg c39] at H
                     exact absurd H (by simp)
                 · rw [if_neg c38] at H
                   have c38b0 : decide (x13_2 < (((rd_T48 t312 a1).f1).length : Int)) = false := decide_eq_false c38
                   clear c38
                   have H' := Aside0.mk H
                   clear H
                   have p327 : 0 ≤ (a1 : Int) := of_decide_eq_true (by first | (with_reducible assumption) | assumption)
                   have q327 : a1 < (t312.length : Int) := of_decide_eq_true (by first | (with_reducible assumption) | assumption)
                   obtain ⟨ad327, A327_1, c327_1, A327_31, c327_31, e327, hx327_0, hx327_1, hx327_2, hx327_3, hx327_4, hx327_5, hx327_6, hx327_7, hx327_8, hx327_9, hx327_10, hx327_11, hx327_12, hx327_13, hx327_14, hx327_15, hx327_16, hx327_17, hx327_18, hx327_19, hx327_20, hx327_21, hx327_22, hx327_23, hx327_24, hx327_25, hx327_26, hx327_27, hx327_28, hx327_29, hx327_30, hx327_31, hx327_32, hx327_33, hl327_1, hi327_1, hl327_31, hi327_31⟩ := at_T48 (Kd.N_reads' HO_0.out).2.2 a1 p327 q327
                   cases e327
                   obtain ⟨ce327, hce327, hMe327, hcc327⟩ := Kd.N_get HO_0.out z48 a1 p327 (by first | exact q327 | exact of_decide_eq_true (by first | (with_reducible assumption) | assumption) | (have e_ := (Kd.N_reads' HO_0.out).1; omega))
                   obtain ⟨ua327_1, uc327_1, ua327_31, uc327_31, rfl, ul327_1, ge327_1, ul327_31, ge327_31⟩ := k48_openF hMe327
                   have hv327_1 := hcc327 1 _ rfl
                   rw [add_field _ _ 1 (by omega)] at hv327_1
                   replace hv327_1 := Option.some.inj (hv327_1.symm.trans hx327_1)
                   injection hv327_1 with hva_ hvn_ hvc_
                   rw [hva_] at ge327_1
                   rw [hvc_] at ul327_1
                   have HL327_1 := Aside0.mk (show Kd.V (Kd.int .i64) 3 _ w.heap.size _ _ ((rd_T48 t312 a1).f1) from Kd.V_mk ul327_1 ge327_1)
                   clear hva_ hvn_ hvc_ ge327_1 ul327_1
                   have hv327_31 := hcc327 31 _ rfl
                   rw [add_field _ _ 31 (by omega)] at hv327_31
                   replace hv327_31 := Option.some.inj (hv327_31.symm.trans hx327_31)
                   injection hv327_31 with hva_ hvn_ hvc_
                   rw [hva_] at ge327_31
                   rw [hvc_] at ul327_31
                   have HL327_31 := Aside0.mk (show Kd.V (Kd.int .i64) 2 _ w.heap.size _ _ ((rd_T48 t312 a1).f3) from Kd.V_mk ul327_31 ge327_31)
                   clear hva_ hvn_ hvc_ ge327_31 ul327_31
                   clear hcc327 hce327
                   have HR327_1 := Aside0.mk hi327_1
                   have HC327_1 := Aside0.mk hl327_1
                   clear hi327_1 hl327_1
                   have HR327_31 := Aside0.mk hi327_31
                   have HC327_31 := Aside0.mk hl327_31
                   clear hi327_31 hl327_31
                   replace p327 := eq_true p327
                   replace q327 := eq_true q327
                   go_wp2
                   go_loopg [16] k2 (fun kq v16 w' => ∃ (x16_3 : Int), v16 = .int .i64 x16_3 ∧ Aside0 (purflinglaw06_LanesOnce.l3 kq t312 t311 t315 x8_1 x12_2 x16_3 = some r) ∧ Aside0 (kq ≤ k2) ∧ Aside0 (Kd.N k48 48 w' w.heap.size (fun k_ => some k_ ≠ ((.slice Ao35 t315.length co35) : Value).ownBlock ∧ some k_ ≠ (v320 : Value).ownBlock) (.slice (some ad327) t312.length co11) t312) ∧ Aside0 (Kd.R k35 35 w' w.heap.size (fun _ => True) (.slice Ao35 t315.length co35) t315) ∧ Aside0 (Kd.R (Kd.int .i64) 3 w' w.heap.size (fun _ => True) v320 x8_1) ∧ Aside0 (Kd.C (Kd.int .i64) w' A327_1 ((rd_T48 t312 a1).f1).length ((rd_T48 t312 a1).f1)) ∧ Aside0 (Kd.C (Kd.int .i64) w' A327_31 ((rd_T48 t312 a1).f3).length ((rd_T48 t312 a1).f3)) ∧ Aside0 (Below w.heap.size w w'))
                   case atStart => exact ⟨(0), (by first | rfl | (simp; done) | (simp [*]; done)), H', ⟨Nat.le_refl _⟩, ⟨by (with_reducible repeat (first | apply Kd.N_alloc | apply Kd.N_drewN | apply Kd.N_drew)); exact HO_0.out⟩, ⟨by (with_reducible repeat (first | apply Kd.R_alloc | apply Kd.R_drewN | apply Kd.R_drew)); exact HO_6.out⟩, ⟨by (with_reducible repeat (first | apply Kd.R_alloc | apply Kd.R_drewN | apply Kd.R_drew)); exact HO_8.out⟩, ⟨by repeat (first | (with_reducible exact HR327_1.out) | (with_reducible refine Kd.C_alloc ?_ _) | (with_reducible refine Kd.C_drewN ?_ _) | (with_reducible refine Kd.C_drew ?_) | exact HR327_1.out)⟩, ⟨by repeat (first | (with_reducible exact HR327_31.out) | (with_reducible refine Kd.C_alloc ?_ _) | (with_reducible refine Kd.C_drewN ?_ _) | (with_reducible refine Kd.C_drew ?_) | exact HR327_31.out)⟩, ⟨by repeat (first | (with_reducible first | exact HB.out | apply below_alloc | apply pw_below_drewN | apply below_drew1) | exact HB.out)⟩⟩
                   case round =>
                    clear H'
                    try clear c1
                    try clear c2
                    try clear p2
                    try clear q2
                    try clear hx2
                    try clear hf2
                    try clear c3
                    try clear p3
                    try clear q3
                    try clear hx3
                    try clear c4
                    try clear c5
                    try clear p6
                    try clear c10
                    try clear c11
                    try clear c15
                    try clear c15b0
                    try clear c16
                    try clear c16b0
                    try clear c17
                    try clear c17b0
                    try clear c19
                    try clear c19b0
                    try clear c21
                    try clear c21b0
                    try clear c22
                    try clear c22b0
                    try clear c23
                    try clear c23b0
                    try clear c23b1
                    try clear c24
                    try clear c24b0
                    try clear c26
                    try clear c26b0
                    try clear c28
                    try clear c28b0
                    try clear p29
                    try clear q29
                    try clear hx29
                    try clear hf29
                    try clear c32
                    try clear p32
                    try clear q32
                    try clear hx32
                    try clear c33
                    try clear p33
                    try clear q33
                    try clear hx33
                    try clear c36
                    try clear c36b0
                    try clear c37
                    try clear c37b0
                    try clear c38
                    try clear c38b0
                    try clear c39
                    try clear c39b0
                    try clear c40
                    try clear c40b0
                    try clear c41
                    try clear c41b0
                    try clear c43
                    try clear c43b0
                    try clear c43b1
                    try clear c45
                    try clear c45b0
                    try clear c46
                    try clear c46b0
                    try clear c47
                    try clear c47b0
                    try clear c48
                    try clear c48b0
                    try clear c49
                    try clear c50
                    try clear c50b0
                    try clear c51
                    try clear c51b0
                    try clear c52
                    try clear c52b0
                    try clear c53
                    try clear c53b0
                    try clear c54
                    try clear c54b0
                    try clear c55
                    try clear c55b0
                    try clear c56
                    try clear c56b0
                    try clear c56b1
                    try clear hx29_0
                    try clear hx322_0
                    try clear hx322_1
                    try clear hx323_0
                    try clear hx323_1
                    try clear hx324_0
                    try clear hx324_1
                    try clear hx324_10
                    try clear hx324_11
                    try clear hx324_12
                    try clear hx324_13
                    try clear hx324_14
                    try clear hx324_15
                    try clear hx324_16
                    try clear hx324_17
                    try clear hx324_18
                    try clear hx324_19
                    try clear hx324_2
                    try clear hx324_20
                    try clear hx324_21
                    try clear hx324_22
                    try clear hx324_23
                    try clear hx324_24
                    try clear hx324_25
                    try clear hx324_26
                    try clear hx324_27
                    try clear hx324_28
                    try clear hx324_29
                    try clear hx324_3
                    try clear hx324_30
                    try clear hx324_31
                    try clear hx324_32
                    try clear hx324_33
                    try clear hx324_4
                    try clear hx324_5
                    try clear hx324_6
                    try clear hx324_7
                    try clear hx324_8
                    try clear hx324_9
                    try clear hx325_0
                    try clear hx327_0
                    try clear hx327_1
                    try clear hx327_10
                    try clear hx327_11
                    try clear hx327_12
                    try clear hx327_13
                    try clear hx327_14
                    try clear hx327_15
                    try clear hx327_16
                    try clear hx327_17
                    try clear hx327_18
                    try clear hx327_19
                    try clear hx327_2
                    try clear hx327_20
                    try clear hx327_21
                    try clear hx327_22
                    try clear hx327_23
                    try clear hx327_24
                    try clear hx327_25
                    try clear hx327_26
                    try clear hx327_27
                    try clear hx327_28
                    try clear hx327_29
                    try clear hx327_3
                    try clear hx327_30
                    try clear hx327_31
                    try clear hx327_32
                    try clear hx327_33
                    try clear hx327_4
                    try clear hx327_5
                    try clear hx327_6
                    try clear hx327_7
                    try clear hx327_8
                    try clear hx327_9
                    try clear hx328_0
                    try clear hx328_1
                    try clear hx328_10
                    try clear hx328_11
                    try clear hx328_12
                    try clear hx328_13
                    try clear hx328_14
                    try clear hx328_15
                    try clear hx328_16
                    try clear hx328_17
                    try clear hx328_18
                    try clear hx328_19
                    try clear hx328_2
                    try clear hx328_20
                    try clear hx328_21
                    try clear hx328_22
                    try clear hx328_23
                    try clear hx328_24
                    try clear hx328_25
                    try clear hx328_26
                    try clear hx328_27
                    try clear hx328_28
                    try clear hx328_29
                    try clear hx328_3
                    try clear hx328_30
                    try clear hx328_31
                    try clear hx328_32
                    try clear hx328_33
                    try clear hx328_4
                    try clear hx328_5
                    try clear hx328_6
                    try clear hx328_7
                    try clear hx328_8
                    try clear hx328_9
                    try clear hx329_0
                    try clear hx330_0
                    try clear hx330_1
                    try clear hx330_10
                    try clear hx330_11
                    try clear hx330_12
                    try clear hx330_13
                    try clear hx330_14
                    try clear hx330_15
                    try clear hx330_16
                    try clear hx330_17
                    try clear hx330_18
                    try clear hx330_19
                    try clear hx330_2
                    try clear hx330_20
                    try clear hx330_21
                    try clear hx330_22
                    try clear hx330_23
                    try clear hx330_24
                    try clear hx330_25
                    try clear hx330_26
                    try clear hx330_27
                    try clear hx330_28
                    try clear hx330_29
                    try clear hx330_3
                    try clear hx330_30
                    try clear hx330_31
                    try clear hx330_32
                    try clear hx330_33
                    try clear hx330_4
                    try clear hx330_5
                    try clear hx330_6
                    try clear hx330_7
                    try clear hx330_8
                    try clear hx330_9
                    try clear hx331_0
                    try clear hx331_1
                    try clear hx331_10
                    try clear hx331_11
                    try clear hx331_12
                    try clear hx331_13
                    try clear hx331_14
                    try clear hx331_15
                    try clear hx331_16
                    try clear hx331_17
                    try clear hx331_18
                    try clear hx331_19
                    try clear hx331_2
                    try clear hx331_20
                    try clear hx331_21
                    try clear hx331_22
                    try clear hx331_23
                    try clear hx331_24
                    try clear hx331_25
                    try clear hx331_26
                    try clear hx331_27
                    try clear hx331_28
                    try clear hx331_29
                    try clear hx331_3
                    try clear hx331_30
                    try clear hx331_31
                    try clear hx331_32
                    try clear hx331_33
                    try clear hx331_4
                    try clear hx331_5
                    try clear hx331_6
                    try clear hx331_7
                    try clear hx331_8
                    try clear hx331_9
                    try clear hx332_0
                    try clear hx332_1
                    try clear hx332_10
                    try clear hx332_11
                    try clear hx332_12
                    try clear hx332_13
                    try clear hx332_14
                    try clear hx332_15
                    try clear hx332_16
                    try clear hx332_17
                    try clear hx332_18
                    try clear hx332_19
                    try clear hx332_2
                    try clear hx332_20
                    try clear hx332_21
                    try clear hx332_22
                    try clear hx332_23
                    try clear hx332_24
                    try clear hx332_25
                    try clear hx332_26
                    try clear hx332_27
                    try clear hx332_28
                    try clear hx332_29
                    try clear hx332_3
                    try clear hx332_30
                    try clear hx332_31
                    try clear hx332_32
                    try clear hx332_33
                    try clear hx332_4
                    try clear hx332_5
                    try clear hx332_6
                    try clear hx332_7
                    try clear hx332_8
                    try clear hx332_9
                    try clear hx333_0
                    try clear hx333_1
                    try clear hx333_10
                    try clear hx333_11
                    try clear hx333_12
                    try clear hx333_13
                    try clear hx333_14
                    try clear hx333_15
                    try clear hx333_16
                    try clear hx333_17
                    try clear hx333_18
                    try clear hx333_19
                    try clear hx333_2
                    try clear hx333_20
                    try clear hx333_21
                    try clear hx333_22
                    try clear hx333_23
                    try clear hx333_24
                    try clear hx333_25
                    try clear hx333_26
                    try clear hx333_27
                    try clear hx333_28
                    try clear hx333_29
                    try clear hx333_3
                    try clear hx333_30
                    try clear hx333_31
                    try clear hx333_32
                    try clear hx333_33
                    try clear hx333_4
                    try clear hx333_5
                    try clear hx333_6
                    try clear hx333_7
                    try clear hx333_8
                    try clear hx333_9
                    try clear hx334_0
                    try clear hx334_1
                    try clear hx334_10
                    try clear hx334_11
                    try clear hx334_12
                    try clear hx334_13
                    try clear hx334_14
                    try clear hx334_15
                    try clear hx334_16
                    try clear hx334_17
                    try clear hx334_18
                    try clear hx334_19
                    try clear hx334_2
                    try clear hx334_20
                    try clear hx334_21
                    try clear hx334_22
                    try clear hx334_23
                    try clear hx334_24
                    try clear hx334_25
                    try clear hx334_26
                    try clear hx334_27
                    try clear hx334_28
                    try clear hx334_29
                    try clear hx334_3
                    try clear hx334_30
                    try clear hx334_31
                    try clear hx334_32
                    try clear hx334_33
                    try clear hx334_4
                    try clear hx334_5
                    try clear hx334_6
                    try clear hx334_7
                    try clear hx334_8
                    try clear hx334_9
                    try clear hx335_0
                    try clear hx336_0
                    try clear hx336_1
                    try clear hx336_10
                    try clear hx336_11
                    try clear hx336_12
                    try clear hx336_13
                    try clear hx336_14
                    try clear hx336_15
                    try clear hx336_16
                    try clear hx336_17
                    try clear hx336_18
                    try clear hx336_19
                    try clear hx336_2
                    try clear hx336_20
                    try clear hx336_21
                    try clear hx336_22
                    try clear hx336_23
                    try clear hx336_24
                    try clear hx336_25
                    try clear hx336_26
                    try clear hx336_27
                    try clear hx336_28
                    try clear hx336_29
                    try clear hx336_3
                    try clear hx336_30
                    try clear hx336_31
                    try clear hx336_32
                    try clear hx336_33
                    try clear hx336_4
                    try clear hx336_5
                    try clear hx336_6
                    try clear hx336_7
                    try clear hx336_8
                    try clear hx336_9
                    try clear p2
                    try clear p29
                    try clear p3
                    try clear p32
                    try clear p322
                    try clear p323
                    try clear p324
                    try clear p325
                    try clear p327
                    try clear p328
                    try clear p329
                    try clear p33
                    try clear p330
                    try clear p331
                    try clear p332
                    try clear p333
                    try clear p334
                    try clear p335
                    try clear p336
                    try clear p6
                    try clear q2
                    try clear q29
                    try clear q3
                    try clear q32
                    try clear q322
                    try clear q323
                    try clear q324
                    try clear q325
                    try clear q327
                    try clear q328
                    try clear q329
                    try clear q33
                    try clear q330
                    try clear q331
                    try clear q332
                    try clear q333
                    try clear q334
                    try clear q335
                    try clear q336
                    obtain ⟨x16_3, rfl, HA, HK3, HO_0, HO_6, HO_8, HR327_1, HR327_31, HB⟩ := hrel
                    cases gk with
                    | zero => exact absurd HA.out (by simp [purflinglaw06_LanesOnce.l3])
                    | succ k3 =>
                     have H := HA.out
                     clear HA
                     simp only [purflinglaw06_LanesOnce.l3] at H
                     by_cases c57 : x16_3 < (t312.length : Int)
                     · rw [if_pos c57] at H
                       have c57b0 : decide (x16_3 < (t312.length : Int)) = true := decide_eq_true c57
                       clear c57
                       by_cases c58 : 0 ≤ x16_3
                       · rw [if_pos c58] at H
                         have c58b0 : decide (0 ≤ x16_3) = true := decide_eq_true c58
                         clear c58
                         by_cases c59 : x16_3 < (x8_1.length : Int)
                         · rw [if_pos c59] at H
                           have c59b0 : decide (x16_3 < (x8_1.length : Int)) = true := decide_eq_true c59
                           clear c59
                           by_cases c60 : (rd x8_1 x16_3) > 1
                           · rw [if_pos c60] at H
                             have c60b0 : decide (1 < (rd x8_1 x16_3)) = true := decide_eq_true c60
                             clear c60
                             obtain rfl := Option.some.inj H
                             obtain ⟨Ao61, co61, eo61⟩ := Kd.R_slice HO_8.out
                             subst eo61
                             have p337 : 0 ≤ (x16_3 : Int) := of_decide_eq_true (by first | (with_reducible assumption) | assumption)
                             have q337 : x16_3 < (x8_1.length : Int) := of_decide_eq_true (by first | (with_reducible assumption) | assumption)
                             obtain ⟨ad337, e337, hx337_0⟩ := Kd.at_int (Kd.R_reads' HO_8.out).2.2 x16_3 p337 q337
                             cases e337
                             replace p337 := eq_true p337
                             replace q337 := eq_true q337
                             go_wp2
                             go_ret
                             exact ⟨by first | rfl | (simp [errW_none, errW_some] <;> rfl) | (simp [*, errW_none, errW_some] <;> rfl), by repeat (first | (with_reducible first | exact HB.out | apply below_alloc | apply pw_below_drewN | apply below_drew1) | exact HB.out)⟩
                           · rw [if_neg c60] at H
                             have c60b0 : decide (1 < (rd x8_1 x16_3)) = false := decide_eq_false c60
                             clear c60
                             have H' := Aside0.mk H
                             clear H
                             obtain ⟨Ao62, co62, eo62⟩ := Kd.R_slice HO_8.out
                             subst eo62
                             have p337 : 0 ≤ (x16_3 : Int) := of_decide_eq_true (by first | (with_reducible assumption) | assumption)
                             have q337 : x16_3 < (x8_1.length : Int) := of_decide_eq_true (by first | (with_reducible assumption) | assumption)
                             obtain ⟨ad337, e337, hx337_0⟩ := Kd.at_int (Kd.R_reads' HO_8.out).2.2 x16_3 p337 q337
                             cases e337
                             replace p337 := eq_true p337
                             replace q337 := eq_true q337
                             go_wp2
                             go_roundg k3
                             case measure => have := HK1.out; have := HK2.out; have := HK3.out; omega
                             case rel => exact ⟨(wrap64 (x16_3 + 1)), (by first | rfl | (simp; done) | (simp [*]; done)), H', ⟨by have := HK1.out; have := HK2.out; have := HK3.out; omega⟩, ⟨by (with_reducible repeat (first | apply Kd.N_alloc | apply Kd.N_drewN | apply Kd.N_drew)); exact HO_0.out⟩, ⟨by (with_reducible repeat (first | apply Kd.R_alloc | apply Kd.R_drewN | apply Kd.R_drew)); exact HO_6.out⟩, ⟨by (with_reducible repeat (first | apply Kd.R_alloc | apply Kd.R_drewN | apply Kd.R_drew)); exact HO_8.out⟩, ⟨by repeat (first | (with_reducible exact HR327_1.out) | (with_reducible refine Kd.C_alloc ?_ _) | (with_reducible refine Kd.C_drewN ?_ _) | (with_reducible refine Kd.C_drew ?_) | exact HR327_1.out)⟩, ⟨by repeat (first | (with_reducible exact HR327_31.out) | (with_reducible refine Kd.C_alloc ?_ _) | (with_reducible refine Kd.C_drewN ?_ _) | (with_reducible refine Kd.C_drew ?_) | exact HR327_31.out)⟩, ⟨by repeat (first | (with_reducible first | exact HB.out | apply below_alloc | apply pw_below_drewN | apply below_drew1) | exact HB.out)⟩⟩
                         · rw [if_neg c59] at H
                           exact absurd H (by simp)
                       · rw [if_neg c58] at H
                         exact absurd H (by simp)
                     · rw [if_neg c57] at H
                       have c57b0 : decide (x16_3 < (t312.length : Int)) = false := decide_eq_false c57
                       clear c57
                       by_cases c63 : t311 = true
                       · subst c63
                         have H1 : (some ((t315.length : Int) == x12_2)) = some r := by rw [if_pos rfl] at H; exact H
                         clear H
                         have H := H1
                         clear H1
                         obtain rfl := Option.some.inj H
                         go_wp2
                         go_ret
                         exact ⟨by first | rfl | (simp [errW_none, errW_some] <;> rfl) | (simp [*, errW_none, errW_some] <;> rfl), by repeat (first | (with_reducible first | exact HB.out | apply below_alloc | apply pw_below_drewN | apply below_drew1) | exact HB.out)⟩
                       · replace c63 := Bool.eq_false_iff.mpr c63
                         subst c63
                         have H1 : (some false) = some r := by rw [if_neg (show ¬ (false = true) by decide)] at H; exact H
                         clear H
                         have H := H1
                         clear H1
                         obtain rfl := Option.some.inj H
                         go_wp2
                         go_ret
                         exact ⟨by first | rfl | (simp [errW_none, errW_some] <;> rfl) | (simp [*, errW_none, errW_some] <;> rfl), by repeat (first | (with_reducible first | exact HB.out | apply below_alloc | apply pw_below_drewN | apply below_drew1) | exact HB.out)⟩
               · rw [if_neg c37] at H
                 exact absurd H (by simp)
             · rw [if_neg c36] at H
               exact absurd H (by simp)
     · rw [if_neg c8] at H
       exact absurd H (by simp)
   · rw [if_neg c7] at H
     exact absurd H (by simp)
 · rw [if_neg c6] at H
   have c6b0 : (t316 == 0) = false := beq_eq_false_iff_ne.mpr c6
   have c6b1 : (t316 != 0) = true := bne_iff_ne.mpr c6
   obtain rfl := Option.some.inj H
   go_enter Try.func4, Try.ntmps4
   go_wp2_with (first | ((with_reducible refine gate_callee (f := 10) rfl ?_); refine goesL_ (some 17) rfl rfl Try.func10 (by kernel_rfl) rfl #[] rfl (by (try simp only [List.map_toArray, List.map_cons, List.map_nil]); first | done | rfl | (simp only [List.length_drop, List.length_take]; rfl)) ?_; (with_reducible refine (purflinglaw06_shown.calls  t311 _ A3.out).mono ?_); rintro e w64 ⟨rfl, hb⟩; refine ⟨_, rfl, ?_⟩; have n0_ := Aside0.mk (below_step (by repeat (first | (with_reducible first | exact HB.out | apply below_alloc | apply pw_below_drewN | apply below_drew1) | exact HB.out)) hb); clear HB; have HB := n0_; clear n0_; (try clear hb); (try clear hb2); (try clear hk); (try clear hi)) | ((with_reducible refine gate_callee (f := 11) rfl ?_); refine goesL_ (some 19) rfl rfl Try.func11 (by kernel_rfl) rfl #[.slice A0 l0.length c0] rfl (by (try simp only [List.map_toArray, List.map_cons, List.map_nil]); first | done | rfl | (simp only [List.length_drop, List.length_take]; rfl)) ?_; (with_reducible refine (purflinglaw04_Cut.calls k (fun k_ => k_ < w.heap.size) _ _ l0 t312 _ ?side1 A4.out).mono ?_); (case side1 => exact Kd.V_mk HC0.out (Kd.F_below (Kd.C_F k48_heap HR0.out) (by repeat (first | (with_reducible first | exact HB.out | apply below_alloc | apply pw_below_drewN | apply below_drew1) | exact HB.out)))); rintro e w65 ⟨v313, rfl, ho0, hb⟩; refine ⟨_, rfl, ?_⟩; have n0_ := Aside0.mk (Kd.N_lower (Kd.N_mono (ok' := fun k_ => True) ho0 (fun k_ hk_ => trivial)) (below_size (by repeat (first | (with_reducible first | exact HB.out | apply below_alloc | apply pw_below_drewN | apply below_drew1) | exact HB.out)))); have n1_ := Aside0.mk (below_step (by repeat (first | (with_reducible first | exact HB.out | apply below_alloc | apply pw_below_drewN | apply below_drew1) | exact HB.out)) hb); clear HB; have HO314 := n0_; have HB := n1_; clear n0_ n1_; (try clear hb); (try clear hb2); (try clear hk); (try clear hi); (try clear ho0); obtain ⟨Ao66, co66, eo66⟩ := Kd.N_slice HO314.out; subst eo66) | ((with_reducible refine gate_callee (f := 16) rfl ?_); refine goesL_ (some 23) rfl rfl Try.func16 (by kernel_rfl) rfl #[.slice Ao66 t312.length co66, .int .i64 a1] rfl (by (try simp only [List.map_toArray, List.map_cons, List.map_nil]); first | done | rfl | (simp only [List.length_drop, List.length_take]; rfl)) ?_; (with_reducible refine (lanes_Rows.calls _ _ t312 a1 t315 t316 _ ?side1 ?side2 A5.out).mono ?_); (case side1 => repeat (first | exact (Kd.N_reads' HO314.out).2.2 | (with_reducible refine Kd.C_alloc ?_ _) | (with_reducible refine Kd.C_drewN ?_ _) | (with_reducible refine Kd.C_drew ?_))); (case side2 => exact (Kd.N_reads' HO314.out).2.1); rintro e w67 ⟨v317, rfl, ho0, hb⟩; refine ⟨_, rfl, ?_⟩; have n0_ := Aside0.mk (Kd.N_elder' (by (with_reducible repeat (first | apply Kd.N_alloc | apply Kd.N_drewN | apply Kd.N_drew)); exact HO314.out) (Kd.R_base ho0) hb); have n1_ := Aside0.mk (Kd.R_lower ho0 (below_size (by repeat (first | (with_reducible first | exact HB.out | apply below_alloc | apply pw_below_drewN | apply below_drew1) | exact HB.out)))); have n2_ := Aside0.mk (below_step (by repeat (first | (with_reducible first | exact HB.out | apply below_alloc | apply pw_below_drewN | apply below_drew1) | exact HB.out)) hb); clear HO314; clear HB; have HO314 := n0_; have HO318 := n1_; have HB := n2_; clear n0_ n1_ n2_; (try clear hb); (try clear hb2); (try clear hk); (try clear hi); (try clear ho0)))
   go_ret
   exact ⟨by first | rfl | (simp [errW_none, errW_some] <;> rfl) | (simp [*, errW_none, errW_some] <;> rfl), by repeat (first | (with_reducible first | exact HB.out | apply below_alloc | apply pw_below_drewN | apply below_drew1) | exact HB.out)⟩
end Go.Proofs.Ytdmnaehgngpikaa.K
