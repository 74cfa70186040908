-- PRINTED by print.py (a twelfth state) out of the translation. Not trusted: Lean checks it.
import Derived.Test.YtjhpkikgajgdmaaTrX
import Derived.Test.YtjhpkikgajgdmaaK0
import Derived.Test.YtjhpkikgajgdmaaK5
import Derived.Test.YtjhpkikgajgdmaaK7
import Derived.Test.YtjhpkikgajgdmaaK9
namespace Go.Proofs.Ytjhpkikgajgdmaa.K
open Go.RowKit Go.Proofs.YtjhpkikgajgdmaaW.PrintWords Go.Proofs.YtjhpkikgajgdmaaW.PrintLast Go.Proofs.YtjhpkikgajgdmaaW.PrintMore
attribute [local go_sem] max2_int min2_int max_two min_two max_three min_three max_four min_four   -- for this text's walks alone
set_option linter.unusedVariables false
set_option linter.unusedSimpArgs false
/-! ### purflingref04_Check: function 21 -/
mutual
def purflingref04_Check.j0 : Nat → List (S43) → Bool → Option (Int × Int)
 | 0, _, _ => none
 | k + 1, x0, x25 => if x25 = true then (some (0, 43)) else (purflingref04_Check.l0 k x0 0)
def purflingref04_Check.l0 : Nat → List (S43) → Int → Option (Int × Int)
 | 0, _, _ => none
 | k + 1, x0, x4 => if x4 < (x0.length : Int) then (if 0 ≤ x4 then ((purflingref04_right.f ((rd_T43 x0 x4).f0) ((rd_T43 x0 x4).f1) ((rd_T43 x0 x4).f2.f0.f0) ((rd_T43 x0 x4).f2.f0.f1) ((rd_T43 x0 x4).f2.f1.f0) ((rd_T43 x0 x4).f2.f1.f1) ((rd_T43 x0 x4).f2.f2.f0) ((rd_T43 x0 x4).f2.f2.f1) ((rd_T43 x0 x4).f2.f2.f2) ((rd_T43 x0 x4).f2.f2.f3) ((rd_T43 x0 x4).f2.f3.f0.f0) ((rd_T43 x0 x4).f2.f3.f0.f1) ((rd_T43 x0 x4).f2.f3.f0.f2) ((rd_T43 x0 x4).f2.f3.f1.f0) ((rd_T43 x0 x4).f2.f3.f1.f1) ((rd_T43 x0 x4).f2.f3.f1.f2) ((rd_T43 x0 x4).f2.f3.f2.f0) ((rd_T43 x0 x4).f2.f3.f2.f1) ((rd_T43 x0 x4).f2.f3.f2.f2) ((rd_T43 x0 x4).f2.f3.f3.f0) ((rd_T43 x0 x4).f2.f3.f3.f1) ((rd_T43 x0 x4).f2.f3.f3.f2) ((rd_T43 x0 x4).f2.f4) ((rd_T43 x0 x4).f2.f5) ((rd_T43 x0 x4).f2.f6) ((rd_T43 x0 x4).f2.f7) ((rd_T43 x0 x4).f2.f8) ((rd_T43 x0 x4).f2.f9.f0) ((rd_T43 x0 x4).f2.f9.f1) ((rd_T43 x0 x4).f2.f10) ((rd_T43 x0 x4).f2.f11) ((rd_T43 x0 x4).f3) ((rd_T43 x0 x4).f4) ((rd_T43 x0 x4).f5)).bind fun t175 => (if t175 = true then (purflingref04_Check.l0 k x0 (wrap64 (x4 + 1))) else (some (x4, 50)))) else (none)) else (if 0 ≤ (x0.length : Int) then (if ((x0.length : Int) : Int).toNat ≤ 35184372088832 then (purflingref04_Check.l1 k x0 (List.replicate ((x0.length : Int) : Int).toNat 0) 0) else (none)) else (none))
def purflingref04_Check.l1 : Nat → List (S43) → List Int → Int → Option (Int × Int)
 | 0, _, _, _ => none
 | k + 1, x0, x6, x7 => if x7 < (x0.length : Int) then (purflingref04_Check.l2 k x0 x6 x7 0) else (if 0 ≤ (x0.length : Int) then (if ((x0.length : Int) : Int).toNat ≤ 281474976710656 then (purflingref04_Check.l3 k x0 x6 (List.replicate ((x0.length : Int) : Int).toNat false) false 1) else (none)) else (none))
def purflingref04_Check.l2 : Nat → List (S43) → List Int → Int → Int → Option (Int × Int)
 | 0, _, _, _, _ => none
 | k + 1, x0, x6, x7, x8 => if 0 ≤ x7 then (if x7 < (x0.length : Int) then (if x8 < (((rd_T43 x0 x7).f1).length : Int) then (if 0 ≤ x8 then (if (rd ((rd_T43 x0 x7).f1) x8) < 1 then (some (x7, 40)) else (if (rd ((rd_T43 x0 x7).f1) x8) ≥ (x0.length : Int) then (some (x7, 40)) else (if 0 ≤ (rd ((rd_T43 x0 x7).f1) x8) then (if (rd ((rd_T43 x0 x7).f1) x8) < (x6.length : Int) then (purflingref04_Check.l2 k x0 (x6.set ((rd ((rd_T43 x0 x7).f1) x8) : Int).toNat (wrap64 ((rd x6 (rd ((rd_T43 x0 x7).f1) x8)) + 1))) x7 (wrap64 (x8 + 1))) else (none)) else (none)))) else (none)) else (purflingref04_Check.l1 k x0 x6 (wrap64 (x7 + 1)))) else (none)) else (none)
def purflingref04_Check.l3 : Nat → List (S43) → List Int → List Bool → Bool → Int → Option (Int × Int)
 | 0, _, _, _, _, _ => none
 | k + 1, x0, x6, x10, x11, x12 => if x12 < (x0.length : Int) then (if x11 = true then (purflingref04_Check.l3 k x0 x6 x10 true (wrap64 (x12 + 1))) else (if 0 ≤ x12 then (if x12 < (x6.length : Int) then (purflingref04_Check.l3 k x0 x6 x10 ((rd x6 x12) != 1) (wrap64 (x12 + 1))) else (none)) else (none))) else (if x11 = true then (purflingref04_Check.j6 k x0 x6 x10 x11) else ((purflingref04_order.f k x0 0 ([] : List Int)).bind fun t188 => (purflingref04_Check.l4 k x0 x6 x10 x11 t188 0)))
def purflingref04_Check.j6 : Nat → List (S43) → List Int → List Bool → Bool → Option (Int × Int)
 | 0, _, _, _, _ => none
 | k + 1, x0, x6, x10, x11 => purflingref04_Check.l5 k x0 x6 x10 x11 1
def purflingref04_Check.l5 : Nat → List (S43) → List Int → List Bool → Bool → Int → Option (Int × Int)
 | 0, _, _, _, _, _ => none
 | k + 1, x0, x6, x10, x11, x15 => if x15 < (x0.length : Int) then (if 0 ≤ x15 then (if x15 < (x6.length : Int) then (if (rd x6 x15) = 1 then (if x11 = true then ((purflingref04_reached.f k x0 x15).bind fun t194 => (if t194 = true then (purflingref04_Check.l5 k x0 x6 x10 x11 (wrap64 (x15 + 1))) else (some (x15, 41)))) else (if x15 < (x10.length : Int) then (if rdOf false x10 x15 = true then (purflingref04_Check.l5 k x0 x6 x10 x11 (wrap64 (x15 + 1))) else (some (x15, 41))) else (none))) else (some (x15, 41))) else (none)) else (none)) else ((purflingref04_depths.f k x0).bind fun t196 => (purflingref04_Check.l6 k x0 t196 0))
def purflingref04_Check.l6 : Nat → List (S43) → List Int → Int → Option (Int × Int)
 | 0, _, _, _ => none
 | k + 1, x0, x16, x17 => if x17 < (x0.length : Int) then (if 0 ≤ x17 then (if x17 < (x16.length : Int) then (if (rd x16 x17) > 64 then (some (x17, 42)) else (purflingref04_Check.l6 k x0 x16 (wrap64 (x17 + 1)))) else (none)) else (none)) else (some (0, 0))
def purflingref04_Check.l4 : Nat → List (S43) → List Int → List Bool → Bool → List Int → Int → Option (Int × Int)
 | 0, _, _, _, _, _, _ => none
 | k + 1, x0, x6, x10, x11, x13, x14 => if x14 < (x13.length : Int) then (if 0 ≤ x14 then (if 0 ≤ (rd x13 x14) then (if (rd x13 x14) < (x10.length : Int) then (purflingref04_Check.l4 k x0 x6 (x10.set ((rd x13 x14) : Int).toNat true) x11 x13 (wrap64 (x14 + 1))) else (none)) else (none)) else (none)) else (purflingref04_Check.j6 k x0 x6 x10 x11)
end
def purflingref04_Check.f (k : Nat) (l0 : List (S43)) : Option (Int × Int) := if (l0.length : Int) < 1 then (purflingref04_Check.j0 k l0 true) else (purflingref04_Check.j0 k l0 (decide ((l0.length : Int) > 65536)))
set_option maxHeartbeats 8000000 in
set_option maxRecDepth 100000 in
theorem purflingref04_Check.calls (k : Nat) (A0 : Option Addr) (c0 : Nat) (l0 : List (S43)) (r1 : Int) (r2 : Int) (w : World) (hr0 : Kd.C k43 w A0 l0.length l0) (hc0 : l0.length ≤ c0) (h : purflingref04_Check.f k l0 = some (r1, r2)) :
 Calls Try.prog 21 #[.slice A0 l0.length c0] w fun e w' => e = .returned (.tuple #[.int .i64 r1, .int .i64 r2]) ∧ Below w.heap.size w w' := by
 have hu43 := Try.underlying43
 have HR0 := Aside0.mk hr0
 have HC0 := Aside0.mk hc0
 clear hr0 hc0
 have HB := Aside0.mk (Below.refl w.heap.size w)
 have H : (if (l0.length : Int) < 1 then (purflingref04_Check.j0 k l0 true) else (purflingref04_Check.j0 k l0 (decide ((l0.length : Int) > 65536)))) = some (r1, r2) := h
 clear h
 have HC2 := Aside0.mk H
 clear H
 go_enter Try.func21, Try.ntmps21
 go_upto_region 1 with (fail)
 go_cut [25] (fun v25 wc => ∃ (kq : Nat) (x25_1 : Bool), v25 = .bool x25_1 ∧ Aside0 (purflingref04_Check.j0 kq l0 x25_1 = some (r1, r2)) ∧ Aside0 (kq ≤ k) ∧ Aside0 (Below w.heap.size w wc))
 case first =>
  have H := HC2.out
  clear HC2
  by_cases c3 : (l0.length : Int) < 1
  · rw [if_pos c3] at H
    have c3b0 : decide ((l0.length : Int) < 1) = true := decide_eq_true c3
    have c3b1 : decide (l0.length < 1) = true := decide_eq_true (by omega)
    clear c3
    (first | rw [c3b0] | (simp only [i64_w, i32_w]; rw [c3b0]) | skip)
    have H' := Aside0.mk H
    clear H
    go_wp2
    go_meet
    case rel => exact ⟨_, (true), (by first | rfl | (simp; done) | (simp [*]; done)), H', ⟨by first | omega | exact Nat.le_refl _⟩, ⟨by repeat (first | exact HB.out | apply below_alloc | apply pw_below_drewN | apply below_drew1)⟩⟩
  · rw [if_neg c3] at H
    have c3b0 : decide ((l0.length : Int) < 1) = false := decide_eq_false c3
    have c3b1 : decide (l0.length < 1) = false := decide_eq_false (by omega)
    clear c3
    (first | rw [c3b0] | (simp only [i64_w, i32_w]; rw [c3b0]) | skip)
    have H' := Aside0.mk H
    clear H
    go_wp2
    go_meet
    case rel => exact ⟨_, (decide ((l0.length : Int) > 65536)), (by first | rfl | (simp; done) | (simp [*]; done)), H', ⟨by first | omega | exact Nat.le_refl _⟩, ⟨by repeat (first | exact HB.out | apply below_alloc | apply pw_below_drewN | apply below_drew1)⟩⟩
 case rest =>
  clear HC2
  try clear c2
  try clear p2
  try clear c3
  try clear c3b0
  try clear c3b1
  obtain ⟨kq, x25_1, rfl, HA, HJ1, HB⟩ := hcut
  cases kq with
  | zero => exact absurd HA.out (by simp [purflingref04_Check.j0])
  | succ kj1 =>
   have H := HA.out
   clear HA
   simp only [purflingref04_Check.j0] at H
   by_cases c4 : x25_1 = true
   · subst c4
     have H1 : (some (0, 43)) = some (r1, r2) := by rw [if_pos rfl] at H; exact H
     clear H
     have H := H1
     clear H1
     simp only [Option.some.injEq, Prod.mk.injEq] at H
     obtain ⟨rfl, rfl⟩ := H
     go_wp2
     go_ret2
     exact ⟨by first | rfl | (simp [errW_none, errW_some] <;> rfl) | (simp [*, errW_none, errW_some] <;> rfl), by repeat (first | exact HB.out | apply below_alloc | apply pw_below_drewN | apply below_drew1)⟩
   · replace c4 := Bool.eq_false_iff.mpr c4
     subst c4
     have H1 : (purflingref04_Check.l0 kj1 l0 0) = some (r1, r2) := by rw [if_neg (show ¬ (false = true) by decide)] at H; exact H
     clear H
     have H := H1
     clear H1
     have H' := Aside0.mk H
     clear H
     go_wp2
     go_loopg [4] kj1 (fun kq v4 w' => ∃ (x4_2 : Int), v4 = .int .i64 x4_2 ∧ Aside0 (purflingref04_Check.l0 kq l0 x4_2 = some (r1, r2)) ∧ Aside0 (kq ≤ kj1) ∧ Aside0 (Below w.heap.size w w'))
     case atStart => exact ⟨(0), (by first | rfl | (simp; done) | (simp [*]; done)), H', ⟨Nat.le_refl _⟩, ⟨by repeat (first | exact HB.out | apply below_alloc | apply pw_below_drewN | apply below_drew1)⟩⟩
     case round =>
      clear H'
      try clear c2
      try clear p2
      try clear c3
      try clear c3b0
      try clear c3b1
      try clear c4
      try clear p2
      obtain ⟨x4_2, rfl, HA, HK2, HB⟩ := hrel
      cases gk with
      | zero => exact absurd HA.out (by simp [purflingref04_Check.l0])
      | succ k2 =>
       have H := HA.out
       clear HA
       simp only [purflingref04_Check.l0] at H
       by_cases c5 : x4_2 < (l0.length : Int)
       · rw [if_pos c5] at H
         have c5b0 : decide (x4_2 < (l0.length : Int)) = true := decide_eq_true c5
         clear c5
         by_cases c6 : 0 ≤ x4_2
         · rw [if_pos c6] at H
           have c6b0 : decide (0 ≤ x4_2) = true := decide_eq_true c6
           clear c6
           replace H := Option.bind_eq_some_iff.mp H
           obtain ⟨t175, A70, H⟩ := H
           replace H : (if t175 = true then (purflingref04_Check.l0 k2 l0 (wrap64 (x4_2 + 1))) else (some (x4_2, 50))) = some (r1, r2) := H
           have A7 := Aside0.mk A70
           clear A70
           by_cases c8 : t175 = true
           · subst c8
             have H1 : (purflingref04_Check.l0 k2 l0 (wrap64 (x4_2 + 1))) = some (r1, r2) := by rw [if_pos rfl] at H; exact H
             clear H
             have H := H1
             clear H1
             have H' := Aside0.mk H
             clear H
             have p174 : 0 ≤ (x4_2 : Int) := of_decide_eq_true (by first | (with_reducible assumption) | assumption)
             have q174 : x4_2 < (l0.length : Int) := of_decide_eq_true (by first | (with_reducible assumption) | assumption)
             obtain ⟨ad174, csN, A1N, c1N, A3N, c3N, e167, hinfoN, hldN, hncN⟩ := node_at HR0.out HB.out x4_2 p174 q174
             subst e167
             have HNC := Aside0.mk hncN
             have hrN : rightN (rd_T43 l0 (x4_2)) = true := Option.some.inj A7.out
             have HRN := Aside0.mk hrN
             clear hncN hrN
             replace p174 := eq_true p174
             replace q174 := eq_true q174
             go_wp2_with (first | (refine wpList_load_any rfl 43 _ rfl _ rfl csN _ hldN Try.underlying43 rfl hinfoN ?_) | (go_at_call 31; refine (rright_any _ csN A1N c1N A3N c3N _ HNC.out true HRN.out).mono ?_; rintro e w9 ⟨rfl, hb⟩; have n0_ := Aside0.mk (below_step (by repeat (first | exact HB.out | apply below_alloc | apply pw_below_drewN | apply below_drew1)) hb); clear HB; have HB := n0_; clear n0_; (try clear hb); (try clear hb2); (try clear hk); (try clear hi)))
             go_roundg k2
             case measure => have := HJ1.out; have := HK2.out; omega
             case rel => exact ⟨(wrap64 (x4_2 + 1)), (by first | rfl | (simp; done) | (simp [*]; done)), H', ⟨by have := HJ1.out; have := HK2.out; omega⟩, ⟨by repeat (first | exact HB.out | apply below_alloc | apply pw_below_drewN | apply below_drew1)⟩⟩
           · replace c8 := Bool.eq_false_iff.mpr c8
             subst c8
             have H1 : (some (x4_2, 50)) = some (r1, r2) := by rw [if_neg (show ¬ (false = true) by decide)] at H; exact H
             clear H
             have H := H1
             clear H1
             simp only [Option.some.injEq, Prod.mk.injEq] at H
             obtain ⟨rfl, rfl⟩ := H
             have p174 : 0 ≤ (x4_2 : Int) := of_decide_eq_true (by first | (with_reducible assumption) | assumption)
             have q174 : x4_2 < (l0.length : Int) := of_decide_eq_true (by first | (with_reducible assumption) | assumption)
             obtain ⟨ad174, csN, A1N, c1N, A3N, c3N, e167, hinfoN, hldN, hncN⟩ := node_at HR0.out HB.out x4_2 p174 q174
             subst e167
             have HNC := Aside0.mk hncN
             have hrN : rightN (rd_T43 l0 (x4_2)) = false := Option.some.inj A7.out
             have HRN := Aside0.mk hrN
             clear hncN hrN
             replace p174 := eq_true p174
             replace q174 := eq_true q174
             go_wp2_with (first | (refine wpList_load_any rfl 43 _ rfl _ rfl csN _ hldN Try.underlying43 rfl hinfoN ?_) | (go_at_call 31; refine (rright_any _ csN A1N c1N A3N c3N _ HNC.out false HRN.out).mono ?_; rintro e w10 ⟨rfl, hb⟩; have n0_ := Aside0.mk (below_step (by repeat (first | exact HB.out | apply below_alloc | apply pw_below_drewN | apply below_drew1)) hb); clear HB; have HB := n0_; clear n0_; (try clear hb); (try clear hb2); (try clear hk); (try clear hi)))
             go_ret2
             exact ⟨by first | rfl | (simp [errW_none, errW_some] <;> rfl) | (simp [*, errW_none, errW_some] <;> rfl), by repeat (first | exact HB.out | apply below_alloc | apply pw_below_drewN | apply below_drew1)⟩
         · rw [if_neg c6] at H
           exact absurd H (by simp)
       · rw [if_neg c5] at H
         have c5b0 : decide (x4_2 < (l0.length : Int)) = false := decide_eq_false c5
         clear c5
         by_cases c11 : 0 ≤ (l0.length : Int)
         · rw [if_pos c11] at H
           have c11b0 := eq_true c11
           have c11b1 : decide (0 ≤ (l0.length : Int)) = true := decide_eq_true c11
           clear c11
           by_cases c12 : ((l0.length : Int) : Int).toNat ≤ 35184372088832
           · rw [if_pos c12] at H
             have c12b0 := eq_true c12
             have c12b1 : decide (((l0.length : Int) : Int).toNat ≤ 35184372088832) = true := decide_eq_true c12
             clear c12
             obtain ⟨y176, hy176⟩ : ∃ y_ : List Int, y_ = (List.replicate ((l0.length : Int) : Int).toNat 0) := ⟨_, rfl⟩
             replace H : (purflingref04_Check.l1 k2 l0 y176 0) = some (r1, r2) := by first | (rw [hy176]; with_reducible exact H) | (have H2_ := (Option.bind_some _ _).symm.trans H; rw [hy176]; with_reducible exact H2_) | (have H2_ := (Option.bind_some _ _).symm.trans H; with_reducible exact H2_) | with_reducible exact H | (rw [hy176]; exact H) | exact H
             have Ny176 := Aside0.mk hy176
             clear hy176
             have H' := Aside0.mk H
             clear H
             go_wp2_with (first | ((with_reducible refine gate_dst (N := 42) rfl ?_); (try (refine gate_guard (by rfl) ?_; dsimp only)); refine Kd.R_make (Kd.int .i64) _ 3 rfl (N := 42) rfl 30 _ _ rfl (l0.length : Int) rfl rfl Try.underlying30 (.int .i64 0) 8 info3 rfl (by decide) (by omega) 0 (ok := fun _ => True) (okp := fun _ => True) rfl (fun _ hk => hk) trivial (of_decide_eq_true (by first | (with_reducible assumption) | assumption)) (Nat.le_trans (Nat.mul_le_mul_right _ (of_decide_eq_true (by first | (with_reducible assumption) | assumption) : (l0.length : Int).toNat ≤ 35184372088832)) (by omega)) (Below.refl _ _) (Nat.le_refl _) ?_; intro v177 w13 ho14 hb hg_ hnew_; clear hg_ hnew_; (first | rw [← Ny176.out] at ho14 | (simp only [Int.reduceToNat] at ho14; rw [← Ny176.out] at ho14)); have n0_ := Aside0.mk (Kd.R_lower ho14 (below_size (by repeat (first | exact HB.out | apply below_alloc | apply pw_below_drewN | apply below_drew1)))); have n1_ := Aside0.mk (below_step (by repeat (first | exact HB.out | apply below_alloc | apply pw_below_drewN | apply below_drew1)) hb); clear HB; have HO178 := n0_; have HB := n1_; clear n0_ n1_; clear hb ho14))
             go_loopg [7] k2 (fun kq v7 w' => ∃ (x6_3 : List Int) (x7_3 : Int), v7 = .int .i64 x7_3 ∧ Aside0 (purflingref04_Check.l1 kq l0 x6_3 x7_3 = some (r1, r2)) ∧ Aside0 (kq ≤ k2) ∧ Aside0 (Kd.R (Kd.int .i64) 3 w' w.heap.size (fun _ => True) v177 x6_3) ∧ Aside0 (Below w.heap.size w w'))
             case atStart => exact ⟨(y176), (0), (by first | rfl | (simp; done) | (simp [*]; done)), H', ⟨Nat.le_refl _⟩, ⟨by (with_reducible repeat (first | apply Kd.R_alloc | apply Kd.R_drewN | apply Kd.R_drew)); exact HO178.out⟩, ⟨by repeat (first | exact HB.out | apply below_alloc | apply pw_below_drewN | apply below_drew1)⟩⟩
             case round =>
              clear H'
              try clear c1
              try clear p1
              try clear q1
              try clear hx1
              try clear c2
              try clear p2
              try clear c3
              try clear c3b0
              try clear c3b1
              try clear c4
              try clear c5
              try clear c5b0
              try clear c6
              try clear c6b0
              try clear p6
              try clear c8
              try clear c11
              try clear c11b0
              try clear c11b1
              try clear c12
              try clear c12b0
              try clear c12b1
              try clear hx174_0
              try clear hx174_1
              try clear hx174_10
              try clear hx174_11
              try clear hx174_12
              try clear hx174_13
              try clear hx174_14
              try clear hx174_15
              try clear hx174_16
              try clear hx174_17
              try clear hx174_18
              try clear hx174_19
              try clear hx174_2
              try clear hx174_20
              try clear hx174_21
              try clear hx174_22
              try clear hx174_23
              try clear hx174_24
              try clear hx174_25
              try clear hx174_26
              try clear hx174_27
              try clear hx174_28
              try clear hx174_29
              try clear hx174_3
              try clear hx174_30
              try clear hx174_31
              try clear hx174_32
              try clear hx174_33
              try clear hx174_4
              try clear hx174_5
              try clear hx174_6
              try clear hx174_7
              try clear hx174_8
              try clear hx174_9
              try clear p174
              try clear p2
              try clear q174
              obtain ⟨x6_3, x7_3, rfl, HA, HK3, HO_6, HB⟩ := hrel
              cases gk with
              | zero => exact absurd HA.out (by simp [purflingref04_Check.l1])
              | succ k3 =>
               have H := HA.out
               clear HA
               simp only [purflingref04_Check.l1] at H
               by_cases c15 : x7_3 < (l0.length : Int)
               · rw [if_pos c15] at H
                 have c15b0 : decide (x7_3 < (l0.length : Int)) = true := decide_eq_true c15
                 clear c15
                 have H' := Aside0.mk H
                 clear H
                 go_wp2
                 go_loopg [8] k3 (fun kq v8 w' => ∃ (x6_4 : List Int) (x8_4 : Int), v8 = .int .i64 x8_4 ∧ Aside0 (purflingref04_Check.l2 kq l0 x6_4 x7_3 x8_4 = some (r1, r2)) ∧ Aside0 (kq ≤ k3) ∧ Aside0 (Kd.R (Kd.int .i64) 3 w' w.heap.size (fun _ => True) v177 x6_4) ∧ Aside0 (Below w.heap.size w w'))
                 case atStart => exact ⟨(x6_3), (0), (by first | rfl | (simp; done) | (simp [*]; done)), H', ⟨Nat.le_refl _⟩, ⟨by (with_reducible repeat (first | apply Kd.R_alloc | apply Kd.R_drewN | apply Kd.R_drew)); exact HO_6.out⟩, ⟨by repeat (first | exact HB.out | apply below_alloc | apply pw_below_drewN | apply below_drew1)⟩⟩
                 case round =>
                  clear H'
                  try clear c1
                  try clear p1
                  try clear q1
                  try clear hx1
                  try clear c2
                  try clear p2
                  try clear c3
                  try clear c3b0
                  try clear c3b1
                  try clear c4
                  try clear c5
                  try clear c5b0
                  try clear c6
                  try clear c6b0
                  try clear p6
                  try clear c8
                  try clear c11
                  try clear c11b0
                  try clear c11b1
                  try clear c12
                  try clear c12b0
                  try clear c12b1
                  try clear c15
                  try clear c15b0
                  try clear hx174_0
                  try clear hx174_1
                  try clear hx174_10
                  try clear hx174_11
                  try clear hx174_12
                  try clear hx174_13
                  try clear hx174_14
                  try clear hx174_15
                  try clear hx174_16
                  try clear hx174_17
                  try clear hx174_18
                  try clear hx174_19
                  try clear hx174_2
                  try clear hx174_20
                  try clear hx174_21
                  try clear hx174_22
                  try clear hx174_23
                  try clear hx174_24
                  try clear hx174_25
                  try clear hx174_26
                  try clear hx174_27
                  try clear hx174_28
                  try clear hx174_29
                  try clear hx174_3
                  try clear hx174_30
                  try clear hx174_31
                  try clear hx174_32
                  try clear hx174_33
                  try clear hx174_4
                  try clear hx174_5
                  try clear hx174_6
                  try clear hx174_7
                  try clear hx174_8
                  try clear hx174_9
                  try clear p1
                  try clear p174
                  try clear p2
                  try clear p6
                  try clear q1
                  try clear q174
                  obtain ⟨x6_4, x8_4, rfl, HA, HK4, HO_6, HB⟩ := hrel
                  cases gk with
                  | zero => exact absurd HA.out (by simp [purflingref04_Check.l2])
                  | succ k4 =>
                   have H := HA.out
                   clear HA
                   simp only [purflingref04_Check.l2] at H
                   by_cases c16 : 0 ≤ x7_3
                   · rw [if_pos c16] at H
                     have c16b0 : decide (0 ≤ x7_3) = true := decide_eq_true c16
                     clear c16
                     by_cases c17 : x7_3 < (l0.length : Int)
                     · rw [if_pos c17] at H
                       have c17b0 : decide (x7_3 < (l0.length : Int)) = true := decide_eq_true c17
                       clear c17
                       by_cases c18 : x8_4 < (((rd_T43 l0 x7_3).f1).length : Int)
                       · rw [if_pos c18] at H
                         have c18b0 : decide (x8_4 < (((rd_T43 l0 x7_3).f1).length : Int)) = true := decide_eq_true c18
                         clear c18
                         by_cases c19 : 0 ≤ x8_4
                         · rw [if_pos c19] at H
                           have c19b0 : decide (0 ≤ x8_4) = true := decide_eq_true c19
                           clear c19
                           by_cases c20 : (rd ((rd_T43 l0 x7_3).f1) x8_4) < 1
                           · rw [if_pos c20] at H
                             have c20b0 : decide ((rd ((rd_T43 l0 x7_3).f1) x8_4) < 1) = true := decide_eq_true c20
                             clear c20
                             simp only [Option.some.injEq, Prod.mk.injEq] at H
                             obtain ⟨rfl, rfl⟩ := H
                             have p179 : 0 ≤ (x7_3 : Int) := of_decide_eq_true (by first | (with_reducible assumption) | assumption)
                             have q179 : x7_3 < (l0.length : Int) := of_decide_eq_true (by first | (with_reducible assumption) | assumption)
                             obtain ⟨ad179, A179_1, c179_1, A179_31, c179_31, e179, hx179_0, hx179_1, hx179_2, hx179_3, hx179_4, hx179_5, hx179_6, hx179_7, hx179_8, hx179_9, hx179_10, hx179_11, hx179_12, hx179_13, hx179_14, hx179_15, hx179_16, hx179_17, hx179_18, hx179_19, hx179_20, hx179_21, hx179_22, hx179_23, hx179_24, hx179_25, hx179_26, hx179_27, hx179_28, hx179_29, hx179_30, hx179_31, hx179_32, hx179_33, hl179_1, hi179_1, hl179_31, hi179_31⟩ := at_T43 HR0.out x7_3 p179 q179
                             cases e179
                             replace hx179_0 := (HB.out.cell (World.block_lt_of_cell? w _ hx179_0)).trans hx179_0
                             replace hx179_1 := (HB.out.cell (World.block_lt_of_cell? w _ hx179_1)).trans hx179_1
                             replace hx179_2 := (HB.out.cell (World.block_lt_of_cell? w _ hx179_2)).trans hx179_2
                             replace hx179_3 := (HB.out.cell (World.block_lt_of_cell? w _ hx179_3)).trans hx179_3
                             replace hx179_4 := (HB.out.cell (World.block_lt_of_cell? w _ hx179_4)).trans hx179_4
                             replace hx179_5 := (HB.out.cell (World.block_lt_of_cell? w _ hx179_5)).trans hx179_5
                             replace hx179_6 := (HB.out.cell (World.block_lt_of_cell? w _ hx179_6)).trans hx179_6
                             replace hx179_7 := (HB.out.cell (World.block_lt_of_cell? w _ hx179_7)).trans hx179_7
                             replace hx179_8 := (HB.out.cell (World.block_lt_of_cell? w _ hx179_8)).trans hx179_8
                             replace hx179_9 := (HB.out.cell (World.block_lt_of_cell? w _ hx179_9)).trans hx179_9
                             replace hx179_10 := (HB.out.cell (World.block_lt_of_cell? w _ hx179_10)).trans hx179_10
                             replace hx179_11 := (HB.out.cell (World.block_lt_of_cell? w _ hx179_11)).trans hx179_11
                             replace hx179_12 := (HB.out.cell (World.block_lt_of_cell? w _ hx179_12)).trans hx179_12
                             replace hx179_13 := (HB.out.cell (World.block_lt_of_cell? w _ hx179_13)).trans hx179_13
                             replace hx179_14 := (HB.out.cell (World.block_lt_of_cell? w _ hx179_14)).trans hx179_14
                             replace hx179_15 := (HB.out.cell (World.block_lt_of_cell? w _ hx179_15)).trans hx179_15
                             replace hx179_16 := (HB.out.cell (World.block_lt_of_cell? w _ hx179_16)).trans hx179_16
                             replace hx179_17 := (HB.out.cell (World.block_lt_of_cell? w _ hx179_17)).trans hx179_17
                             replace hx179_18 := (HB.out.cell (World.block_lt_of_cell? w _ hx179_18)).trans hx179_18
                             replace hx179_19 := (HB.out.cell (World.block_lt_of_cell? w _ hx179_19)).trans hx179_19
                             replace hx179_20 := (HB.out.cell (World.block_lt_of_cell? w _ hx179_20)).trans hx179_20
                             replace hx179_21 := (HB.out.cell (World.block_lt_of_cell? w _ hx179_21)).trans hx179_21
                             replace hx179_22 := (HB.out.cell (World.block_lt_of_cell? w _ hx179_22)).trans hx179_22
                             replace hx179_23 := (HB.out.cell (World.block_lt_of_cell? w _ hx179_23)).trans hx179_23
                             replace hx179_24 := (HB.out.cell (World.block_lt_of_cell? w _ hx179_24)).trans hx179_24
                             replace hx179_25 := (HB.out.cell (World.block_lt_of_cell? w _ hx179_25)).trans hx179_25
                             replace hx179_26 := (HB.out.cell (World.block_lt_of_cell? w _ hx179_26)).trans hx179_26
                             replace hx179_27 := (HB.out.cell (World.block_lt_of_cell? w _ hx179_27)).trans hx179_27
                             replace hx179_28 := (HB.out.cell (World.block_lt_of_cell? w _ hx179_28)).trans hx179_28
                             replace hx179_29 := (HB.out.cell (World.block_lt_of_cell? w _ hx179_29)).trans hx179_29
                             replace hx179_30 := (HB.out.cell (World.block_lt_of_cell? w _ hx179_30)).trans hx179_30
                             replace hx179_31 := (HB.out.cell (World.block_lt_of_cell? w _ hx179_31)).trans hx179_31
                             replace hx179_32 := (HB.out.cell (World.block_lt_of_cell? w _ hx179_32)).trans hx179_32
                             replace hx179_33 := (HB.out.cell (World.block_lt_of_cell? w _ hx179_33)).trans hx179_33
                             have HR179_1 := Aside0.mk hi179_1
                             have HC179_1 := Aside0.mk hl179_1
                             clear hi179_1 hl179_1
                             have HR179_31 := Aside0.mk hi179_31
                             have HC179_31 := Aside0.mk hl179_31
                             clear hi179_31 hl179_31
                             replace p179 := eq_true p179
                             replace q179 := eq_true q179
                             have p180 : 0 ≤ (x7_3 : Int) := of_decide_eq_true (by first | (with_reducible assumption) | assumption)
                             have q180 : x7_3 < (l0.length : Int) := of_decide_eq_true (by first | (with_reducible assumption) | assumption)
                             obtain ⟨ad180, A180_1, c180_1, A180_31, c180_31, e180, hx180_0, hx180_1, hx180_2, hx180_3, hx180_4, hx180_5, hx180_6, hx180_7, hx180_8, hx180_9, hx180_10, hx180_11, hx180_12, hx180_13, hx180_14, hx180_15, hx180_16, hx180_17, hx180_18, hx180_19, hx180_20, hx180_21, hx180_22, hx180_23, hx180_24, hx180_25, hx180_26, hx180_27, hx180_28, hx180_29, hx180_30, hx180_31, hx180_32, hx180_33, hl180_1, hi180_1, hl180_31, hi180_31⟩ := at_T43 HR0.out x7_3 p180 q180
                             obtain rfl : ad179 = ad180 := (by injection e180)
                             replace hx180_0 := (HB.out.cell (World.block_lt_of_cell? w _ hx180_0)).trans hx180_0
                             replace hx180_1 := (HB.out.cell (World.block_lt_of_cell? w _ hx180_1)).trans hx180_1
                             replace hx180_2 := (HB.out.cell (World.block_lt_of_cell? w _ hx180_2)).trans hx180_2
                             replace hx180_3 := (HB.out.cell (World.block_lt_of_cell? w _ hx180_3)).trans hx180_3
                             replace hx180_4 := (HB.out.cell (World.block_lt_of_cell? w _ hx180_4)).trans hx180_4
                             replace hx180_5 := (HB.out.cell (World.block_lt_of_cell? w _ hx180_5)).trans hx180_5
                             replace hx180_6 := (HB.out.cell (World.block_lt_of_cell? w _ hx180_6)).trans hx180_6
                             replace hx180_7 := (HB.out.cell (World.block_lt_of_cell? w _ hx180_7)).trans hx180_7
                             replace hx180_8 := (HB.out.cell (World.block_lt_of_cell? w _ hx180_8)).trans hx180_8
                             replace hx180_9 := (HB.out.cell (World.block_lt_of_cell? w _ hx180_9)).trans hx180_9
                             replace hx180_10 := (HB.out.cell (World.block_lt_of_cell? w _ hx180_10)).trans hx180_10
                             replace hx180_11 := (HB.out.cell (World.block_lt_of_cell? w _ hx180_11)).trans hx180_11
                             replace hx180_12 := (HB.out.cell (World.block_lt_of_cell? w _ hx180_12)).trans hx180_12
                             replace hx180_13 := (HB.out.cell (World.block_lt_of_cell? w _ hx180_13)).trans hx180_13
                             replace hx180_14 := (HB.out.cell (World.block_lt_of_cell? w _ hx180_14)).trans hx180_14
                             replace hx180_15 := (HB.out.cell (World.block_lt_of_cell? w _ hx180_15)).trans hx180_15
                             replace hx180_16 := (HB.out.cell (World.block_lt_of_cell? w _ hx180_16)).trans hx180_16
                             replace hx180_17 := (HB.out.cell (World.block_lt_of_cell? w _ hx180_17)).trans hx180_17
                             replace hx180_18 := (HB.out.cell (World.block_lt_of_cell? w _ hx180_18)).trans hx180_18
                             replace hx180_19 := (HB.out.cell (World.block_lt_of_cell? w _ hx180_19)).trans hx180_19
                             replace hx180_20 := (HB.out.cell (World.block_lt_of_cell? w _ hx180_20)).trans hx180_20
                             replace hx180_21 := (HB.out.cell (World.block_lt_of_cell? w _ hx180_21)).trans hx180_21
                             replace hx180_22 := (HB.out.cell (World.block_lt_of_cell? w _ hx180_22)).trans hx180_22
                             replace hx180_23 := (HB.out.cell (World.block_lt_of_cell? w _ hx180_23)).trans hx180_23
                             replace hx180_24 := (HB.out.cell (World.block_lt_of_cell? w _ hx180_24)).trans hx180_24
                             replace hx180_25 := (HB.out.cell (World.block_lt_of_cell? w _ hx180_25)).trans hx180_25
                             replace hx180_26 := (HB.out.cell (World.block_lt_of_cell? w _ hx180_26)).trans hx180_26
                             replace hx180_27 := (HB.out.cell (World.block_lt_of_cell? w _ hx180_27)).trans hx180_27
                             replace hx180_28 := (HB.out.cell (World.block_lt_of_cell? w _ hx180_28)).trans hx180_28
                             replace hx180_29 := (HB.out.cell (World.block_lt_of_cell? w _ hx180_29)).trans hx180_29
                             replace hx180_30 := (HB.out.cell (World.block_lt_of_cell? w _ hx180_30)).trans hx180_30
                             replace hx180_31 := (HB.out.cell (World.block_lt_of_cell? w _ hx180_31)).trans hx180_31
                             replace hx180_32 := (HB.out.cell (World.block_lt_of_cell? w _ hx180_32)).trans hx180_32
                             replace hx180_33 := (HB.out.cell (World.block_lt_of_cell? w _ hx180_33)).trans hx180_33
                             have HR180_1 := Aside0.mk hi180_1
                             have HC180_1 := Aside0.mk hl180_1
                             clear hi180_1 hl180_1
                             have HR180_31 := Aside0.mk hi180_31
                             have HC180_31 := Aside0.mk hl180_31
                             clear hi180_31 hl180_31
                             replace p180 := eq_true p180
                             replace q180 := eq_true q180
                             have ea_ := Option.some.inj (hx179_1.symm.trans hx180_1)
                             injection ea_ with ea_ en_ ec_
                             subst ea_
                             subst ec_
                             clear en_
                             have ea_ := Option.some.inj (hx179_31.symm.trans hx180_31)
                             injection ea_ with ea_ en_ ec_
                             subst ea_
                             subst ec_
                             clear en_
                             have p181 : 0 ≤ (x8_4 : Int) := of_decide_eq_true (by first | (with_reducible assumption) | assumption)
                             have q181 : x8_4 < (((rd_T43 l0 x7_3).f1).length : Int) := of_decide_eq_true (by first | (with_reducible assumption) | assumption)
                             obtain ⟨ad181, e181, hx181_0⟩ := Kd.at_int HR180_1.out x8_4 p181 q181
                             cases e181
                             replace hx181_0 := (HB.out.cell (World.block_lt_of_cell? w _ hx181_0)).trans hx181_0
                             replace p181 := eq_true p181
                             replace q181 := eq_true q181
                             go_wp2
                             go_ret2
                             exact ⟨by first | rfl | (simp [errW_none, errW_some] <;> rfl) | (simp [*, errW_none, errW_some] <;> rfl), by repeat (first | exact HB.out | apply below_alloc | apply pw_below_drewN | apply below_drew1)⟩
                           · rw [if_neg c20] at H
                             have c20b0 : decide ((rd ((rd_T43 l0 x7_3).f1) x8_4) < 1) = false := decide_eq_false c20
                             clear c20
                             by_cases c21 : (rd ((rd_T43 l0 x7_3).f1) x8_4) ≥ (l0.length : Int)
                             · rw [if_pos c21] at H
                               have c21b0 : decide ((l0.length : Int) ≤ (rd ((rd_T43 l0 x7_3).f1) x8_4)) = true := decide_eq_true c21
                               clear c21
                               simp only [Option.some.injEq, Prod.mk.injEq] at H
                               obtain ⟨rfl, rfl⟩ := H
                               have p179 : 0 ≤ (x7_3 : Int) := of_decide_eq_true (by first | (with_reducible assumption) | assumption)
                               have q179 : x7_3 < (l0.length : Int) := of_decide_eq_true (by first | (with_reducible assumption) | assumption)
                               obtain ⟨ad179, A179_1, c179_1, A179_31, c179_31, e179, hx179_0, hx179_1, hx179_2, hx179_3, hx179_4, hx179_5, hx179_6, hx179_7, hx179_8, hx179_9, hx179_10, hx179_11, hx179_12, hx179_13, hx179_14, hx179_15, hx179_16, hx179_17, hx179_18, hx179_19, hx179_20, hx179_21, hx179_22, hx179_23, hx179_24, hx179_25, hx179_26, hx179_27, hx179_28, hx179_29, hx179_30, hx179_31, hx179_32, hx179_33, hl179_1, hi179_1, hl179_31, hi179_31⟩ := at_T43 HR0.out x7_3 p179 q179
                               cases e179
                               replace hx179_0 := (HB.out.cell (World.block_lt_of_cell? w _ hx179_0)).trans hx179_0
                               replace hx179_1 := (HB.out.cell (World.block_lt_of_cell? w _ hx179_1)).trans hx179_1
                               replace hx179_2 := (HB.out.cell (World.block_lt_of_cell? w _ hx179_2)).trans hx179_2
                               replace hx179_3 := (HB.out.cell (World.block_lt_of_cell? w _ hx179_3)).trans hx179_3
                               replace hx179_4 := (HB.out.cell (World.block_lt_of_cell? w _ hx179_4)).trans hx179_4
                               replace hx179_5 := (HB.out.cell (World.block_lt_of_cell? w _ hx179_5)).trans hx179_5
                               replace hx179_6 := (HB.out.cell (World.block_lt_of_cell? w _ hx179_6)).trans hx179_6
                               replace hx179_7 := (HB.out.cell (World.block_lt_of_cell? w _ hx179_7)).trans hx179_7
                               replace hx179_8 := (HB.out.cell (World.block_lt_of_cell? w _ hx179_8)).trans hx179_8
                               replace hx179_9 := (HB.out.cell (World.block_lt_of_cell? w _ hx179_9)).trans hx179_9
                               replace hx179_10 := (HB.out.cell (World.block_lt_of_cell? w _ hx179_10)).trans hx179_10
                               replace hx179_11 := (HB.out.cell (World.block_lt_of_cell? w _ hx179_11)).trans hx179_11
                               replace hx179_12 := (HB.out.cell (World.block_lt_of_cell? w _ hx179_12)).trans hx179_12
                               replace hx179_13 := (HB.out.cell (World.block_lt_of_cell? w _ hx179_13)).trans hx179_13
                               replace hx179_14 := (HB.out.cell (World.block_lt_of_cell? w _ hx179_14)).trans hx179_14
                               replace hx179_15 := (HB.out.cell (World.block_lt_of_cell? w _ hx179_15)).trans hx179_15
                               replace hx179_16 := (HB.out.cell (World.block_lt_of_cell? w _ hx179_16)).trans hx179_16
                               replace hx179_17 := (HB.out.cell (World.block_lt_of_cell? w _ hx179_17)).trans hx179_17
                               replace hx179_18 := (HB.out.cell (World.block_lt_of_cell? w _ hx179_18)).trans hx179_18
                               replace hx179_19 := (HB.out.cell (World.block_lt_of_cell? w _ hx179_19)).trans hx179_19
                               replace hx179_20 := (HB.out.cell (World.block_lt_of_cell? w _ hx179_20)).trans hx179_20
                               replace hx179_21 := (HB.out.cell (World.block_lt_of_cell? w _ hx179_21)).trans hx179_21
                               replace hx179_22 := (HB.out.cell (World.block_lt_of_cell? w _ hx179_22)).trans hx179_22
                               replace hx179_23 := (HB.out.cell (World.block_lt_of_cell? w _ hx179_23)).trans hx179_23
                               replace hx179_24 := (HB.out.cell (World.block_lt_of_cell? w _ hx179_24)).trans hx179_24
                               replace hx179_25 := (HB.out.cell (World.block_lt_of_cell? w _ hx179_25)).trans hx179_25
                               replace hx179_26 := (HB.out.cell (World.block_lt_of_cell? w _ hx179_26)).trans hx179_26
                               replace hx179_27 := (HB.out.cell (World.block_lt_of_cell? w _ hx179_27)).trans hx179_27
                               replace hx179_28 := (HB.out.cell (World.block_lt_of_cell? w _ hx179_28)).trans hx179_28
                               replace hx179_29 := (HB.out.cell (World.block_lt_of_cell? w _ hx179_29)).trans hx179_29
                               replace hx179_30 := (HB.out.cell (World.block_lt_of_cell? w _ hx179_30)).trans hx179_30
                               replace hx179_31 := (HB.out.cell (World.block_lt_of_cell? w _ hx179_31)).trans hx179_31
                               replace hx179_32 := (HB.out.cell (World.block_lt_of_cell? w _ hx179_32)).trans hx179_32
                               replace hx179_33 := (HB.out.cell (World.block_lt_of_cell? w _ hx179_33)).trans hx179_33
                               have HR179_1 := Aside0.mk hi179_1
                               have HC179_1 := Aside0.mk hl179_1
                               clear hi179_1 hl179_1
                               have HR179_31 := Aside0.mk hi179_31
                               have HC179_31 := Aside0.mk hl179_31
                               clear hi179_31 hl179_31
                               replace p179 := eq_true p179
                               replace q179 := eq_true q179
                               have p180 : 0 ≤ (x7_3 : Int) := of_decide_eq_true (by first | (with_reducible assumption) | assumption)
                               have q180 : x7_3 < (l0.length : Int) := of_decide_eq_true (by first | (with_reducible assumption) | assumption)
                               obtain ⟨ad180, A180_1, c180_1, A180_31, c180_31, e180, hx180_0, hx180_1, hx180_2, hx180_3, hx180_4, hx180_5, hx180_6, hx180_7, hx180_8, hx180_9, hx180_10, hx180_11, hx180_12, hx180_13, hx180_14, hx180_15, hx180_16, hx180_17, hx180_18, hx180_19, hx180_20, hx180_21, hx180_22, hx180_23, hx180_24, hx180_25, hx180_26, hx180_27, hx180_28, hx180_29, hx180_30, hx180_31, hx180_32, hx180_33, hl180_1, hi180_1, hl180_31, hi180_31⟩ := at_T43 HR0.out x7_3 p180 q180
                               obtain rfl : ad179 = ad180 := (by injection e180)
                               replace hx180_0 := (HB.out.cell (World.block_lt_of_cell? w _ hx180_0)).trans hx180_0
                               replace hx180_1 := (HB.out.cell (World.block_lt_of_cell? w _ hx180_1)).trans hx180_1
                               replace hx180_2 := (HB.out.cell (World.block_lt_of_cell? w _ hx180_2)).trans hx180_2
                               replace hx180_3 := (HB.out.cell (World.block_lt_of_cell? w _ hx180_3)).trans hx180_3
                               replace hx180_4 := (HB.out.cell (World.block_lt_of_cell? w _ hx180_4)).trans hx180_4
                               replace hx180_5 := (HB.out.cell (World.block_lt_of_cell? w _ hx180_5)).trans hx180_5
                               replace hx180_6 := (HB.out.cell (World.block_lt_of_cell? w _ hx180_6)).trans hx180_6
                               replace hx180_7 := (HB.out.cell (World.block_lt_of_cell? w _ hx180_7)).trans hx180_7
                               replace hx180_8 := (HB.out.cell (World.block_lt_of_cell? w _ hx180_8)).trans hx180_8
                               replace hx180_9 := (HB.out.cell (World.block_lt_of_cell? w _ hx180_9)).trans hx180_9
                               replace hx180_10 := (HB.out.cell (World.block_lt_of_cell? w _ hx180_10)).trans hx180_10
                               replace hx180_11 := (HB.out.cell (World.block_lt_of_cell? w _ hx180_11)).trans hx180_11
                               replace hx180_12 := (HB.out.cell (World.block_lt_of_cell? w _ hx180_12)).trans hx180_12
                               replace hx180_13 := (HB.out.cell (World.block_lt_of_cell? w _ hx180_13)).trans hx180_13
                               replace hx180_14 := (HB.out.cell (World.block_lt_of_cell? w _ hx180_14)).trans hx180_14
                               replace hx180_15 := (HB.out.cell (World.block_lt_of_cell? w _ hx180_15)).trans hx180_15
                               replace hx180_16 := (HB.out.cell (World.block_lt_of_cell? w _ hx180_16)).trans hx180_16
                               replace hx180_17 := (HB.out.cell (World.block_lt_of_cell? w _ hx180_17)).trans hx180_17
                               replace hx180_18 := (HB.out.cell (World.block_lt_of_cell? w _ hx180_18)).trans hx180_18
                               replace hx180_19 := (HB.out.cell (World.block_lt_of_cell? w _ hx180_19)).trans hx180_19
                               replace hx180_20 := (HB.out.cell (World.block_lt_of_cell? w _ hx180_20)).trans hx180_20
                               replace hx180_21 := (HB.out.cell (World.block_lt_of_cell? w _ hx180_21)).trans hx180_21
                               replace hx180_22 := (HB.out.cell (World.block_lt_of_cell? w _ hx180_22)).trans hx180_22
                               replace hx180_23 := (HB.out.cell (World.block_lt_of_cell? w _ hx180_23)).trans hx180_23
                               replace hx180_24 := (HB.out.cell (World.block_lt_of_cell? w _ hx180_24)).trans hx180_24
                               replace hx180_25 := (HB.out.cell (World.block_lt_of_cell? w _ hx180_25)).trans hx180_25
                               replace hx180_26 := (HB.out.cell (World.block_lt_of_cell? w _ hx180_26)).trans hx180_26
                               replace hx180_27 := (HB.out.cell (World.block_lt_of_cell? w _ hx180_27)).trans hx180_27
                               replace hx180_28 := (HB.out.cell (World.block_lt_of_cell? w _ hx180_28)).trans hx180_28
                               replace hx180_29 := (HB.out.cell (World.block_lt_of_cell? w _ hx180_29)).trans hx180_29
                               replace hx180_30 := (HB.out.cell (World.block_lt_of_cell? w _ hx180_30)).trans hx180_30
                               replace hx180_31 := (HB.out.cell (World.block_lt_of_cell? w _ hx180_31)).trans hx180_31
                               replace hx180_32 := (HB.out.cell (World.block_lt_of_cell? w _ hx180_32)).trans hx180_32
                               replace hx180_33 := (HB.out.cell (World.block_lt_of_cell? w _ hx180_33)).trans hx180_33
                               have HR180_1 := Aside0.mk hi180_1
                               have HC180_1 := Aside0.mk hl180_1
                               clear hi180_1 hl180_1
                               have HR180_31 := Aside0.mk hi180_31
                               have HC180_31 := Aside0.mk hl180_31
                               clear hi180_31 hl180_31
                               replace p180 := eq_true p180
                               replace q180 := eq_true q180
                               have ea_ := Option.some.inj (hx179_1.symm.trans hx180_1)
                               injection ea_ with ea_ en_ ec_
                               subst ea_
                               subst ec_
                               clear en_
                               have ea_ := Option.some.inj (hx179_31.symm.trans hx180_31)
                               injection ea_ with ea_ en_ ec_
                               subst ea_
                               subst ec_
                               clear en_
                               have p181 : 0 ≤ (x8_4 : Int) := of_decide_eq_true (by first | (with_reducible assumption) | assumption)
                               have q181 : x8_4 < (((rd_T43 l0 x7_3).f1).length : Int) := of_decide_eq_true (by first | (with_reducible assumption) | assumption)
                               obtain ⟨ad181, e181, hx181_0⟩ := Kd.at_int HR180_1.out x8_4 p181 q181
                               cases e181
                               replace hx181_0 := (HB.out.cell (World.block_lt_of_cell? w _ hx181_0)).trans hx181_0
                               replace p181 := eq_true p181
                               replace q181 := eq_true q181
                               go_wp2
                               go_ret2
                               exact ⟨by first | rfl | (simp [errW_none, errW_some] <;> rfl) | (simp [*, errW_none, errW_some] <;> rfl), by repeat (first | exact HB.out | apply below_alloc | apply pw_below_drewN | apply below_drew1)⟩
                             · rw [if_neg c21] at H
                               have c21b0 : decide ((l0.length : Int) ≤ (rd ((rd_T43 l0 x7_3).f1) x8_4)) = false := decide_eq_false c21
                               clear c21
                               by_cases c22 : 0 ≤ (rd ((rd_T43 l0 x7_3).f1) x8_4)
                               · rw [if_pos c22] at H
                                 have c22b0 : decide (0 ≤ (rd ((rd_T43 l0 x7_3).f1) x8_4)) = true := decide_eq_true c22
                                 clear c22
                                 by_cases c23 : (rd ((rd_T43 l0 x7_3).f1) x8_4) < (x6_4.length : Int)
                                 · rw [if_pos c23] at H
                                   have c23b0 : decide ((rd ((rd_T43 l0 x7_3).f1) x8_4) < (x6_4.length : Int)) = true := decide_eq_true c23
                                   clear c23
                                   obtain ⟨y183, hy183⟩ : ∃ y_ : List Int, y_ = (x6_4.set ((rd ((rd_T43 l0 x7_3).f1) x8_4) : Int).toNat (wrap64 ((rd x6_4 (rd ((rd_T43 l0 x7_3).f1) x8_4)) + 1))) := ⟨_, rfl⟩
                                   replace H : (purflingref04_Check.l2 k4 l0 y183 x7_3 (wrap64 (x8_4 + 1))) = some (r1, r2) := by first | (rw [hy183]; with_reducible exact H) | (have H2_ := (Option.bind_some _ _).symm.trans H; rw [hy183]; with_reducible exact H2_) | (have H2_ := (Option.bind_some _ _).symm.trans H; with_reducible exact H2_) | with_reducible exact H | (rw [hy183]; exact H) | exact H
                                   have Ny183 := Aside0.mk hy183
                                   clear hy183
                                   have H' := Aside0.mk H
                                   clear H
                                   have p179 : 0 ≤ (x7_3 : Int) := of_decide_eq_true (by first | (with_reducible assumption) | assumption)
                                   have q179 : x7_3 < (l0.length : Int) := of_decide_eq_true (by first | (with_reducible assumption) | assumption)
                                   obtain ⟨ad179, A179_1, c179_1, A179_31, c179_31, e179, hx179_0, hx179_1, hx179_2, hx179_3, hx179_4, hx179_5, hx179_6, hx179_7, hx179_8, hx179_9, hx179_10, hx179_11, hx179_12, hx179_13, hx179_14, hx179_15, hx179_16, hx179_17, hx179_18, hx179_19, hx179_20, hx179_21, hx179_22, hx179_23, hx179_24, hx179_25, hx179_26, hx179_27, hx179_28, hx179_29, hx179_30, hx179_31, hx179_32, hx179_33, hl179_1, hi179_1, hl179_31, hi179_31⟩ := at_T43 HR0.out x7_3 p179 q179
                                   cases e179
                                   replace hx179_0 := (HB.out.cell (World.block_lt_of_cell? w _ hx179_0)).trans hx179_0
                                   replace hx179_1 := (HB.out.cell (World.block_lt_of_cell? w _ hx179_1)).trans hx179_1
                                   replace hx179_2 := (HB.out.cell (World.block_lt_of_cell? w _ hx179_2)).trans hx179_2
                                   replace hx179_3 := (HB.out.cell (World.block_lt_of_cell? w _ hx179_3)).trans hx179_3
                                   replace hx179_4 := (HB.out.cell (World.block_lt_of_cell? w _ hx179_4)).trans hx179_4
                                   replace hx179_5 := (HB.out.cell (World.block_lt_of_cell? w _ hx179_5)).trans hx179_5
                                   replace hx179_6 := (HB.out.cell (World.block_lt_of_cell? w _ hx179_6)).trans hx179_6
                                   replace hx179_7 := (HB.out.cell (World.block_lt_of_cell? w _ hx179_7)).trans hx179_7
                                   replace hx179_8 := (HB.out.cell (World.block_lt_of_cell? w _ hx179_8)).trans hx179_8
                                   replace hx179_9 := (HB.out.cell (World.block_lt_of_cell? w _ hx179_9)).trans hx179_9
                                   replace hx179_10 := (HB.out.cell (World.block_lt_of_cell? w _ hx179_10)).trans hx179_10
                                   replace hx179_11 := (HB.out.cell (World.block_lt_of_cell? w _ hx179_11)).trans hx179_11
                                   replace hx179_12 := (HB.out.cell (World.block_lt_of_cell? w _ hx179_12)).trans hx179_12
                                   replace hx179_13 := (HB.out.cell (World.block_lt_of_cell? w _ hx179_13)).trans hx179_13
                                   replace hx179_14 := (HB.out.cell (World.block_lt_of_cell? w _ hx179_14)).trans hx179_14
                                   replace hx179_15 := (HB.out.cell (World.block_lt_of_cell? w _ hx179_15)).trans hx179_15
                                   replace hx179_16 := (HB.out.cell (World.block_lt_of_cell? w _ hx179_16)).trans hx179_16
                                   replace hx179_17 := (HB.out.cell (World.block_lt_of_cell? w _ hx179_17)).trans hx179_17
                                   replace hx179_18 := (HB.out.cell (World.block_lt_of_cell? w _ hx179_18)).trans hx179_18
                                   replace hx179_19 := (HB.out.cell (World.block_lt_of_cell? w _ hx179_19)).trans hx179_19
                                   replace hx179_20 := (HB.out.cell (World.block_lt_of_cell? w _ hx179_20)).trans hx179_20
                                   replace hx179_21 := (HB.out.cell (World.block_lt_of_cell? w _ hx179_21)).trans hx179_21
                                   replace hx179_22 := (HB.out.cell (World.block_lt_of_cell? w _ hx179_22)).trans hx179_22
                                   replace hx179_23 := (HB.out.cell (World.block_lt_of_cell? w _ hx179_23)).trans hx179_23
                                   replace hx179_24 := (HB.out.cell (World.block_lt_of_cell? w _ hx179_24)).trans hx179_24
                                   replace hx179_25 := (HB.out.cell (World.block_lt_of_cell? w _ hx179_25)).trans hx179_25
                                   replace hx179_26 := (HB.out.cell (World.block_lt_of_cell? w _ hx179_26)).trans hx179_26
                                   replace hx179_27 := (HB.out.cell (World.block_lt_of_cell? w _ hx179_27)).trans hx179_27
                                   replace hx179_28 := (HB.out.cell (World.block_lt_of_cell? w _ hx179_28)).trans hx179_28
                                   replace hx179_29 := (HB.out.cell (World.block_lt_of_cell? w _ hx179_29)).trans hx179_29
                                   replace hx179_30 := (HB.out.cell (World.block_lt_of_cell? w _ hx179_30)).trans hx179_30
                                   replace hx179_31 := (HB.out.cell (World.block_lt_of_cell? w _ hx179_31)).trans hx179_31
                                   replace hx179_32 := (HB.out.cell (World.block_lt_of_cell? w _ hx179_32)).trans hx179_32
                                   replace hx179_33 := (HB.out.cell (World.block_lt_of_cell? w _ hx179_33)).trans hx179_33
                                   have HR179_1 := Aside0.mk hi179_1
                                   have HC179_1 := Aside0.mk hl179_1
                                   clear hi179_1 hl179_1
                                   have HR179_31 := Aside0.mk hi179_31
                                   have HC179_31 := Aside0.mk hl179_31
                                   clear hi179_31 hl179_31
                                   replace p179 := eq_true p179
                                   replace q179 := eq_true q179
                                   have p180 : 0 ≤ (x7_3 : Int) := of_decide_eq_true (by first | (with_reducible assumption) | assumption)
                                   have q180 : x7_3 < (l0.length : Int) := of_decide_eq_true (by first | (with_reducible assumption) | assumption)
                                   obtain ⟨ad180, A180_1, c180_1, A180_31, c180_31, e180, hx180_0, hx180_1, hx180_2, hx180_3, hx180_4, hx180_5, hx180_6, hx180_7, hx180_8, hx180_9, hx180_10, hx180_11, hx180_12, hx180_13, hx180_14, hx180_15, hx180_16, hx180_17, hx180_18, hx180_19, hx180_20, hx180_21, hx180_22, hx180_23, hx180_24, hx180_25, hx180_26, hx180_27, hx180_28, hx180_29, hx180_30, hx180_31, hx180_32, hx180_33, hl180_1, hi180_1, hl180_31, hi180_31⟩ := at_T43 HR0.out x7_3 p180 q180
                                   obtain rfl : ad179 = ad180 := (by injection e180)
                                   replace hx180_0 := (HB.out.cell (World.block_lt_of_cell? w _ hx180_0)).trans hx180_0
                                   replace hx180_1 := (HB.out.cell (World.block_lt_of_cell? w _ hx180_1)).trans hx180_1
                                   replace hx180_2 := (HB.out.cell (World.block_lt_of_cell? w _ hx180_2)).trans hx180_2
                                   replace hx180_3 := (HB.out.cell (World.block_lt_of_cell? w _ hx180_3)).trans hx180_3
                                   replace hx180_4 := (HB.out.cell (World.block_lt_of_cell? w _ hx180_4)).trans hx180_4
                                   replace hx180_5 := (HB.out.cell (World.block_lt_of_cell? w _ hx180_5)).trans hx180_5
                                   replace hx180_6 := (HB.out.cell (World.block_lt_of_cell? w _ hx180_6)).trans hx180_6
                                   replace hx180_7 := (HB.out.cell (World.block_lt_of_cell? w _ hx180_7)).trans hx180_7
                                   replace hx180_8 := (HB.out.cell (World.block_lt_of_cell? w _ hx180_8)).trans hx180_8
                                   replace hx180_9 := (HB.out.cell (World.block_lt_of_cell? w _ hx180_9)).trans hx180_9
                                   replace hx180_10 := (HB.out.cell (World.block_lt_of_cell? w _ hx180_10)).trans hx180_10
                                   replace hx180_11 := (HB.out.cell (World.block_lt_of_cell? w _ hx180_11)).trans hx180_11
                                   replace hx180_12 := (HB.out.cell (World.block_lt_of_cell? w _ hx180_12)).trans hx180_12
                                   replace hx180_13 := (HB.out.cell (World.block_lt_of_cell? w _ hx180_13)).trans hx180_13
                                   replace hx180_14 := (HB.out.cell (World.block_lt_of_cell? w _ hx180_14)).trans hx180_14
                                   replace hx180_15 := (HB.out.cell (World.block_lt_of_cell? w _ hx180_15)).trans hx180_15
                                   replace hx180_16 := (HB.out.cell (World.block_lt_of_cell? w _ hx180_16)).trans hx180_16
                                   replace hx180_17 := (HB.out.cell (World.block_lt_of_cell? w _ hx180_17)).trans hx180_17
                                   replace hx180_18 := (HB.out.cell (World.block_lt_of_cell? w _ hx180_18)).trans hx180_18
                                   replace hx180_19 := (HB.out.cell (World.block_lt_of_cell? w _ hx180_19)).trans hx180_19
                                   replace hx180_20 := (HB.out.cell (World.block_lt_of_cell? w _ hx180_20)).trans hx180_20
                                   replace hx180_21 := (HB.out.cell (World.block_lt_of_cell? w _ hx180_21)).trans hx180_21
                                   replace hx180_22 := (HB.out.cell (World.block_lt_of_cell? w _ hx180_22)).trans hx180_22
                                   replace hx180_23 := (HB.out.cell (World.block_lt_of_cell? w _ hx180_23)).trans hx180_23
                                   replace hx180_24 := (HB.out.cell (World.block_lt_of_cell? w _ hx180_24)).trans hx180_24
                                   replace hx180_25 := (HB.out.cell (World.block_lt_of_cell? w _ hx180_25)).trans hx180_25
                                   replace hx180_26 := (HB.out.cell (World.block_lt_of_cell? w _ hx180_26)).trans hx180_26
                                   replace hx180_27 := (HB.out.cell (World.block_lt_of_cell? w _ hx180_27)).trans hx180_27
                                   replace hx180_28 := (HB.out.cell (World.block_lt_of_cell? w _ hx180_28)).trans hx180_28
                                   replace hx180_29 := (HB.out.cell (World.block_lt_of_cell? w _ hx180_29)).trans hx180_29
                                   replace hx180_30 := (HB.out.cell (World.block_lt_of_cell? w _ hx180_30)).trans hx180_30
                                   replace hx180_31 := (HB.out.cell (World.block_lt_of_cell? w _ hx180_31)).trans hx180_31
                                   replace hx180_32 := (HB.out.cell (World.block_lt_of_cell? w _ hx180_32)).trans hx180_32
                                   replace hx180_33 := (HB.out.cell (World.block_lt_of_cell? w _ hx180_33)).trans hx180_33
                                   have HR180_1 := Aside0.mk hi180_1
                                   have HC180_1 := Aside0.mk hl180_1
                                   clear hi180_1 hl180_1
                                   have HR180_31 := Aside0.mk hi180_31
                                   have HC180_31 := Aside0.mk hl180_31
                                   clear hi180_31 hl180_31
                                   replace p180 := eq_true p180
                                   replace q180 := eq_true q180
                                   have ea_ := Option.some.inj (hx179_1.symm.trans hx180_1)
                                   injection ea_ with ea_ en_ ec_
                                   subst ea_
                                   subst ec_
                                   clear en_
                                   have ea_ := Option.some.inj (hx179_31.symm.trans hx180_31)
                                   injection ea_ with ea_ en_ ec_
                                   subst ea_
                                   subst ec_
                                   clear en_
                                   have p181 : 0 ≤ (x8_4 : Int) := of_decide_eq_true (by first | (with_reducible assumption) | assumption)
                                   have q181 : x8_4 < (((rd_T43 l0 x7_3).f1).length : Int) := of_decide_eq_true (by first | (with_reducible assumption) | assumption)
                                   obtain ⟨ad181, e181, hx181_0⟩ := Kd.at_int HR180_1.out x8_4 p181 q181
                                   cases e181
                                   replace hx181_0 := (HB.out.cell (World.block_lt_of_cell? w _ hx181_0)).trans hx181_0
                                   replace p181 := eq_true p181
                                   replace q181 := eq_true q181
                                   obtain ⟨Ao25, co25, eo25⟩ := Kd.R_slice HO_6.out
                                   subst eo25
                                   have p182 : 0 ≤ ((rd ((rd_T43 l0 x7_3).f1) x8_4) : Int) := of_decide_eq_true (by first | (with_reducible assumption) | assumption)
                                   have q182 : (rd ((rd_T43 l0 x7_3).f1) x8_4) < (x6_4.length : Int) := of_decide_eq_true (by first | (with_reducible assumption) | assumption)
                                   obtain ⟨ad182, e182, hx182_0⟩ := Kd.at_int (Kd.R_reads' HO_6.out).2.2 (rd ((rd_T43 l0 x7_3).f1) x8_4) p182 q182
                                   cases e182
                                   replace p182 := eq_true p182
                                   replace q182 := eq_true q182
                                   have p24 : 0 ≤ ((rd ((rd_T43 l0 x7_3).f1) x8_4) : Int) := of_decide_eq_true (by first | (with_reducible assumption) | assumption)
                                   have q24 : ((rd ((rd_T43 l0 x7_3).f1) x8_4) : Int) < ((x6_4.length : Int) : Int) := of_decide_eq_true (by first | (with_reducible assumption) | assumption)
                                   obtain ⟨go24, co24, eo24, gb24, gl24, cl24, HG24⟩ := Kd.R_form HO_6.out (by omega)
                                   (first | cases eo24 | (injection eo24 with ea_ en_ ec_; (first | subst ea_ | (injection ea_ with ea_; subst ea_)); subst ec_; clear en_))
                                   have GB24 := Aside0.mk gb24
                                   have GG24 := Aside0.mk HG24
                                   clear gb24 gl24 HG24
                                   (first | simp only [add_plain] at hx182_0 | skip)
                                   obtain ⟨hx24_0, hf24_0⟩ := Kd.R_celln 0 HO_6.out ((rd ((rd_T43 l0 x7_3).f1) x8_4) : Int) p24 q24
                                   replace p24 := eq_true p24
                                   replace q24 := eq_true q24
                                   have HP26 := Kd.R_putg HO_6.out ((rd ((rd_T43 l0 x7_3).f1) x8_4) : Int) (wrap64 ((rd x6_4 (rd ((rd_T43 l0 x7_3).f1) x8_4)) + 1))
                                   go_wp2_with (first | ((with_reducible refine gate_store (t := 3) (p := 81) rfl ?_); refine store_event (t := 3) (p := 81) (v := ?vo_w27) (w1 := (wr.setCell ⟨go24, ((rd ((rd_T43 l0 x7_3).f1) x8_4) : Int).toNat, none⟩ (.int .i64 (wrap64 ((rd x6_4 (rd ((rd_T43 l0 x7_3).f1) x8_4)) + 1))))) ?hg ?ho ?hn ?hr ?_; (case ho => rfl); (case hg => rfl); (case hn => rfl); (case hr => first | (go_simp; done) | (go_simp; rfl)); intro w27 hw; have hg : wr.grownBy w27 (some go24) := (by rw [hw]; exact HP26.2); have hp_ : Kd.R (Kd.int .i64) 3 w27 w.heap.size (fun _ => True) (.slice (some ⟨go24, 0, none⟩) x6_4.length co25) y183 := (by rw [hw, Ny183.out]; exact HP26.1); clear HP26; have n0_ := Aside0.mk (hp_); have n1_ := Aside0.mk ((by rw [hw]; exact below_set (HB.out) GB24.out : Below w.heap.size w w27)); clear HO_6; clear HB; have HO_6 := n0_; have HB := n1_; clear n0_ n1_; clear hg hw hp_))
                                   go_roundg k4
                                   case measure => have := HJ1.out; have := HK2.out; have := HK3.out; have := HK4.out; omega
                                   case rel => exact ⟨(y183), (wrap64 (x8_4 + 1)), (by first | rfl | (simp; done) | (simp [*]; done)), H', ⟨by have := HJ1.out; have := HK2.out; have := HK3.out; have := HK4.out; omega⟩, ⟨by (with_reducible repeat (first | apply Kd.R_alloc | apply Kd.R_drewN | apply Kd.R_drew)); exact HO_6.out⟩, ⟨by repeat (first | exact HB.out | apply below_alloc | apply pw_below_drewN | apply below_drew1)⟩⟩
                                 · rw [if_neg c23] at H
                                   exact absurd H (by simp)
                               · rw [if_neg c22] at H
                                 exact absurd H (by simp)
                         · rw [if_neg c19] at H
                           exact absurd H (by simp)
                       · rw [if_neg c18] at H
                         have c18b0 : decide (x8_4 < (((rd_T43 l0 x7_3).f1).length : Int)) = false := decide_eq_false c18
                         clear c18
                         have H' := Aside0.mk H
                         clear H
                         have p179 : 0 ≤ (x7_3 : Int) := of_decide_eq_true (by first | (with_reducible assumption) | assumption)
                         have q179 : x7_3 < (l0.length : Int) := of_decide_eq_true (by first | (with_reducible assumption) | assumption)
                         obtain ⟨ad179, A179_1, c179_1, A179_31, c179_31, e179, hx179_0, hx179_1, hx179_2, hx179_3, hx179_4, hx179_5, hx179_6, hx179_7, hx179_8, hx179_9, hx179_10, hx179_11, hx179_12, hx179_13, hx179_14, hx179_15, hx179_16, hx179_17, hx179_18, hx179_19, hx179_20, hx179_21, hx179_22, hx179_23, hx179_24, hx179_25, hx179_26, hx179_27, hx179_28, hx179_29, hx179_30, hx179_31, hx179_32, hx179_33, hl179_1, hi179_1, hl179_31, hi179_31⟩ := at_T43 HR0.out x7_3 p179 q179
                         cases e179
                         replace hx179_0 := (HB.out.cell (World.block_lt_of_cell? w _ hx179_0)).trans hx179_0
                         replace hx179_1 := (HB.out.cell (World.block_lt_of_cell? w _ hx179_1)).trans hx179_1
                         replace hx179_2 := (HB.out.cell (World.block_lt_of_cell? w _ hx179_2)).trans hx179_2
                         replace hx179_3 := (HB.out.cell (World.block_lt_of_cell? w _ hx179_3)).trans hx179_3
                         replace hx179_4 := (HB.out.cell (World.block_lt_of_cell? w _ hx179_4)).trans hx179_4
                         replace hx179_5 := (HB.out.cell (World.block_lt_of_cell? w _ hx179_5)).trans hx179_5
                         replace hx179_6 := (HB.out.cell (World.block_lt_of_cell? w _ hx179_6)).trans hx179_6
                         replace hx179_7 := (HB.out.cell (World.block_lt_of_cell? w _ hx179_7)).trans hx179_7
                         replace hx179_8 := (HB.out.cell (World.block_lt_of_cell? w _ hx179_8)).trans hx179_8
                         replace hx179_9 := (HB.out.cell (World.block_lt_of_cell? w _ hx179_9)).trans hx179_9
                         replace hx179_10 := (HB.out.cell (World.block_lt_of_cell? w _ hx179_10)).trans hx179_10
                         replace hx179_11 := (HB.out.cell (World.block_lt_of_cell? w _ hx179_11)).trans hx179_11
                         replace hx179_12 := (HB.out.cell (World.block_lt_of_cell? w _ hx179_12)).trans hx179_12
                         replace hx179_13 := (HB.out.cell (World.block_lt_of_cell? w _ hx179_13)).trans hx179_13
                         replace hx179_14 := (HB.out.cell (World.block_lt_of_cell? w _ hx179_14)).trans hx179_14
                         replace hx179_15 := (HB.out.cell (World.block_lt_of_cell? w _ hx179_15)).trans hx179_15
                         replace hx179_16 := (HB.out.cell (World.block_lt_of_cell? w _ hx179_16)).trans hx179_16
                         replace hx179_17 := (HB.out.cell (World.block_lt_of_cell? w _ hx179_17)).trans hx179_17
                         replace hx179_18 := (HB.out.cell (World.block_lt_of_cell? w _ hx179_18)).trans hx179_18
                         replace hx179_19 := (HB.out.cell (World.block_lt_of_cell? w _ hx179_19)).trans hx179_19
                         replace hx179_20 := (HB.out.cell (World.block_lt_of_cell? w _ hx179_20)).trans hx179_20
                         replace hx179_21 := (HB.out.cell (World.block_lt_of_cell? w _ hx179_21)).trans hx179_21
                         replace hx179_22 := (HB.out.cell (World.block_lt_of_cell? w _ hx179_22)).trans hx179_22
                         replace hx179_23 := (HB.out.cell (World.block_lt_of_cell? w _ hx179_23)).trans hx179_23
                         replace hx179_24 := (HB.out.cell (World.block_lt_of_cell? w _ hx179_24)).trans hx179_24
                         replace hx179_25 := (HB.out.cell (World.block_lt_of_cell? w _ hx179_25)).trans hx179_25
                         replace hx179_26 := (HB.out.cell (World.block_lt_of_cell? w _ hx179_26)).trans hx179_26
                         replace hx179_27 := (HB.out.cell (World.block_lt_of_cell? w _ hx179_27)).trans hx179_27
                         replace hx179_28 := (HB.out.cell (World.block_lt_of_cell? w _ hx179_28)).trans hx179_28
                         replace hx179_29 := (HB.out.cell (World.block_lt_of_cell? w _ hx179_29)).trans hx179_29
                         replace hx179_30 := (HB.out.cell (World.block_lt_of_cell? w _ hx179_30)).trans hx179_30
                         replace hx179_31 := (HB.out.cell (World.block_lt_of_cell? w _ hx179_31)).trans hx179_31
                         replace hx179_32 := (HB.out.cell (World.block_lt_of_cell? w _ hx179_32)).trans hx179_32
                         replace hx179_33 := (HB.out.cell (World.block_lt_of_cell? w _ hx179_33)).trans hx179_33
                         have HR179_1 := Aside0.mk hi179_1
                         have HC179_1 := Aside0.mk hl179_1
                         clear hi179_1 hl179_1
                         have HR179_31 := Aside0.mk hi179_31
                         have HC179_31 := Aside0.mk hl179_31
                         clear hi179_31 hl179_31
                         replace p179 := eq_true p179
                         replace q179 := eq_true q179
                         go_wp2
                         go_roundg k4
                         case measure => have := HJ1.out; have := HK2.out; have := HK3.out; have := HK4.out; omega
                         case rel => exact ⟨(x6_4), (wrap64 (x7_3 + 1)), (by first | rfl | (simp; done) | (simp [*]; done)), H', ⟨by have := HJ1.out; have := HK2.out; have := HK3.out; have := HK4.out; omega⟩, ⟨by (with_reducible repeat (first | apply Kd.R_alloc | apply Kd.R_drewN | apply Kd.R_drew)); exact HO_6.out⟩, ⟨by repeat (first | exact HB.out | apply below_alloc | apply pw_below_drewN | apply below_drew1)⟩⟩
                     · rw [if_neg c17] at H
                       exact absurd H (by simp)
                   · rw [if_neg c16] at H
                     exact absurd H (by simp)
               · rw [if_neg c15] at H
                 have c15b0 : decide (x7_3 < (l0.length : Int)) = false := decide_eq_false c15
                 clear c15
                 by_cases c28 : 0 ≤ (l0.length : Int)
                 · rw [if_pos c28] at H
                   have c28b0 := eq_true c28
                   have c28b1 : decide (0 ≤ (l0.length : Int)) = true := decide_eq_true c28
                   clear c28
                   by_cases c29 : ((l0.length : Int) : Int).toNat ≤ 281474976710656
                   · rw [if_pos c29] at H
                     have c29b0 := eq_true c29
                     have c29b1 : decide (((l0.length : Int) : Int).toNat ≤ 281474976710656) = true := decide_eq_true c29
                     clear c29
                     obtain ⟨y184, hy184⟩ : ∃ y_ : List Bool, y_ = (List.replicate ((l0.length : Int) : Int).toNat false) := ⟨_, rfl⟩
                     replace H : (purflingref04_Check.l3 k3 l0 x6_3 y184 false 1) = some (r1, r2) := by first | (rw [hy184]; with_reducible exact H) | (have H2_ := (Option.bind_some _ _).symm.trans H; rw [hy184]; with_reducible exact H2_) | (have H2_ := (Option.bind_some _ _).symm.trans H; with_reducible exact H2_) | with_reducible exact H | (rw [hy184]; exact H) | exact H
                     have Ny184 := Aside0.mk hy184
                     clear hy184
                     have H' := Aside0.mk H
                     clear H
                     go_wp2_with (first | ((with_reducible refine gate_dst (N := 84) rfl ?_); (try (refine gate_guard (by rfl) ?_; dsimp only)); refine Kd.R_make Kd.bool _ 4 rfl (N := 84) rfl 65 _ _ rfl (l0.length : Int) rfl rfl Try.underlying65 (.bool false) 1 info4 rfl (by decide) (by omega) false (ok := fun _ => True) (okp := fun _ => True) rfl (fun _ hk => hk) trivial (of_decide_eq_true (by first | (with_reducible assumption) | assumption)) (Nat.le_trans (Nat.mul_le_mul_right _ (of_decide_eq_true (by first | (with_reducible assumption) | assumption) : (l0.length : Int).toNat ≤ 281474976710656)) (by omega)) (Below.refl _ _) (Nat.le_refl _) ?_; intro v185 w30 ho31 hb hg_ hnew_; clear hg_ hnew_; (first | rw [← Ny184.out] at ho31 | (simp only [Int.reduceToNat] at ho31; rw [← Ny184.out] at ho31)); have n0_ := Aside0.mk (Kd.R_below (by (with_reducible repeat (first | apply Kd.R_alloc | apply Kd.R_drewN | apply Kd.R_drew)); exact HO_6.out) hb); have n1_ := Aside0.mk (Kd.R_lower ho31 (below_size (by repeat (first | exact HB.out | apply below_alloc | apply pw_below_drewN | apply below_drew1)))); have n2_ := Aside0.mk (below_step (by repeat (first | exact HB.out | apply below_alloc | apply pw_below_drewN | apply below_drew1)) hb); clear HO_6; clear HB; have HO_6 := n0_; have HO186 := n1_; have HB := n2_; clear n0_ n1_ n2_; clear hb ho31))
                     go_loopg [11, 12] k3 (fun kq v11 v12 w' => ∃ (x11_4 : Bool) (x12_4 : Int), v11 = .bool x11_4 ∧ v12 = .int .i64 x12_4 ∧ Aside0 (purflingref04_Check.l3 kq l0 x6_3 y184 x11_4 x12_4 = some (r1, r2)) ∧ Aside0 (kq ≤ k3) ∧ Aside0 (Kd.R (Kd.int .i64) 3 w' w.heap.size (fun _ => True) v177 x6_3) ∧ Aside0 (Kd.R Kd.bool 4 w' w.heap.size (fun _ => True) v185 y184) ∧ Aside0 (Below w.heap.size w w'))
                     case atStart => exact ⟨(false), (1), (by first | rfl | (simp; done) | (simp [*]; done)), (by first | rfl | (simp; done) | (simp [*]; done)), H', ⟨Nat.le_refl _⟩, ⟨by (with_reducible repeat (first | apply Kd.R_alloc | apply Kd.R_drewN | apply Kd.R_drew)); exact HO_6.out⟩, ⟨by (with_reducible repeat (first | apply Kd.R_alloc | apply Kd.R_drewN | apply Kd.R_drew)); exact HO186.out⟩, ⟨by repeat (first | exact HB.out | apply below_alloc | apply pw_below_drewN | apply below_drew1)⟩⟩
                     case round =>
                      clear H'
                      try clear c1
                      try clear p1
                      try clear q1
                      try clear hx1
                      try clear c2
                      try clear p2
                      try clear q2
                      try clear hx2
                      try clear hf2
                      try clear c3
                      try clear c3b0
                      try clear c3b1
                      try clear c4
                      try clear c5
                      try clear c5b0
                      try clear c6
                      try clear c6b0
                      try clear p6
                      try clear c8
                      try clear c11
                      try clear c11b0
                      try clear c11b1
                      try clear c12
                      try clear c12b0
                      try clear c12b1
                      try clear c15
                      try clear c15b0
                      try clear c16
                      try clear c16b0
                      try clear c17
                      try clear c17b0
                      try clear p17
                      try clear q17
                      try clear hx17
                      try clear c18
                      try clear c18b0
                      try clear p18
                      try clear q18
                      try clear hx18
                      try clear c19
                      try clear c19b0
                      try clear c20
                      try clear c20b0
                      try clear c21
                      try clear c21b0
                      try clear c22
                      try clear c22b0
                      try clear c23
                      try clear c23b0
                      try clear p24
                      try clear q24
                      try clear hx24
                      try clear hf24
                      try clear c28
                      try clear c28b0
                      try clear c28b1
                      try clear c29
                      try clear c29b0
                      try clear c29b1
                      try clear hx174_0
                      try clear hx174_1
                      try clear hx174_10
                      try clear hx174_11
                      try clear hx174_12
                      try clear hx174_13
                      try clear hx174_14
                      try clear hx174_15
                      try clear hx174_16
                      try clear hx174_17
                      try clear hx174_18
                      try clear hx174_19
                      try clear hx174_2
                      try clear hx174_20
                      try clear hx174_21
                      try clear hx174_22
                      try clear hx174_23
                      try clear hx174_24
                      try clear hx174_25
                      try clear hx174_26
                      try clear hx174_27
                      try clear hx174_28
                      try clear hx174_29
                      try clear hx174_3
                      try clear hx174_30
                      try clear hx174_31
                      try clear hx174_32
                      try clear hx174_33
                      try clear hx174_4
                      try clear hx174_5
                      try clear hx174_6
                      try clear hx174_7
                      try clear hx174_8
                      try clear hx174_9
                      try clear hx179_0
                      try clear hx179_1
                      try clear hx179_10
                      try clear hx179_11
                      try clear hx179_12
                      try clear hx179_13
                      try clear hx179_14
                      try clear hx179_15
                      try clear hx179_16
                      try clear hx179_17
                      try clear hx179_18
                      try clear hx179_19
                      try clear hx179_2
                      try clear hx179_20
                      try clear hx179_21
                      try clear hx179_22
                      try clear hx179_23
                      try clear hx179_24
                      try clear hx179_25
                      try clear hx179_26
                      try clear hx179_27
                      try clear hx179_28
                      try clear hx179_29
                      try clear hx179_3
                      try clear hx179_30
                      try clear hx179_31
                      try clear hx179_32
                      try clear hx179_33
                      try clear hx179_4
                      try clear hx179_5
                      try clear hx179_6
                      try clear hx179_7
                      try clear hx179_8
                      try clear hx179_9
                      try clear hx180_0
                      try clear hx180_1
                      try clear hx180_10
                      try clear hx180_11
                      try clear hx180_12
                      try clear hx180_13
                      try clear hx180_14
                      try clear hx180_15
                      try clear hx180_16
                      try clear hx180_17
                      try clear hx180_18
                      try clear hx180_19
                      try clear hx180_2
                      try clear hx180_20
                      try clear hx180_21
                      try clear hx180_22
                      try clear hx180_23
                      try clear hx180_24
                      try clear hx180_25
                      try clear hx180_26
                      try clear hx180_27
                      try clear hx180_28
                      try clear hx180_29
                      try clear hx180_3
                      try clear hx180_30
                      try clear hx180_31
                      try clear hx180_32
                      try clear hx180_33
                      try clear hx180_4
                      try clear hx180_5
                      try clear hx180_6
                      try clear hx180_7
                      try clear hx180_8
                      try clear hx180_9
                      try clear hx181_0
                      try clear hx182_0
                      try clear hx24_0
                      try clear p1
                      try clear p174
                      try clear p179
                      try clear p180
                      try clear p181
                      try clear p182
                      try clear p2
                      try clear p24
                      try clear p6
                      try clear q1
                      try clear q174
                      try clear q179
                      try clear q180
                      try clear q181
                      try clear q182
                      try clear q24
                      obtain ⟨x11_4, x12_4, rfl, rfl, HA, HK4, HO_6, HO_10, HB⟩ := hrel
                      cases gk with
                      | zero => exact absurd HA.out (by simp [purflingref04_Check.l3])
                      | succ k4 =>
                       have H := HA.out
                       clear HA
                       simp only [purflingref04_Check.l3] at H
                       by_cases c32 : x12_4 < (l0.length : Int)
                       · rw [if_pos c32] at H
                         have c32b0 : decide (x12_4 < (l0.length : Int)) = true := decide_eq_true c32
                         clear c32
                         by_cases c33 : x11_4 = true
                         · subst c33
                           have H1 : (purflingref04_Check.l3 k4 l0 x6_3 y184 true (wrap64 (x12_4 + 1))) = some (r1, r2) := by rw [if_pos rfl] at H; exact H
                           clear H
                           have H := H1
                           clear H1
                           have H' := Aside0.mk H
                           clear H
                           go_wp2
                           go_roundg k4
                           case measure => have := HJ1.out; have := HK2.out; have := HK3.out; have := HK4.out; omega
                           case rel => exact ⟨(true), (wrap64 (x12_4 + 1)), (by first | rfl | (simp; done) | (simp [*]; done)), (by first | rfl | (simp; done) | (simp [*]; done)), H', ⟨by have := HJ1.out; have := HK2.out; have := HK3.out; have := HK4.out; omega⟩, ⟨by (with_reducible repeat (first | apply Kd.R_alloc | apply Kd.R_drewN | apply Kd.R_drew)); exact HO_6.out⟩, ⟨by (with_reducible repeat (first | apply Kd.R_alloc | apply Kd.R_drewN | apply Kd.R_drew)); exact HO_10.out⟩, ⟨by repeat (first | exact HB.out | apply below_alloc | apply pw_below_drewN | apply below_drew1)⟩⟩
                         · replace c33 := Bool.eq_false_iff.mpr c33
                           subst c33
                           have H1 : (if 0 ≤ x12_4 then (if x12_4 < (x6_3.length : Int) then (purflingref04_Check.l3 k4 l0 x6_3 y184 ((rd x6_3 x12_4) != 1) (wrap64 (x12_4 + 1))) else (none)) else (none)) = some (r1, r2) := by rw [if_neg (show ¬ (false = true) by decide)] at H; exact H
                           clear H
                           have H := H1
                           clear H1
                           by_cases c34 : 0 ≤ x12_4
                           · rw [if_pos c34] at H
                             have c34b0 : decide (0 ≤ x12_4) = true := decide_eq_true c34
                             clear c34
                             by_cases c35 : x12_4 < (x6_3.length : Int)
                             · rw [if_pos c35] at H
                               have c35b0 : decide (x12_4 < (x6_3.length : Int)) = true := decide_eq_true c35
                               clear c35
                               have H' := Aside0.mk H
                               clear H
                               obtain ⟨Ao36, co36, eo36⟩ := Kd.R_slice HO_6.out
                               subst eo36
                               have p187 : 0 ≤ (x12_4 : Int) := of_decide_eq_true (by first | (with_reducible assumption) | assumption)
                               have q187 : x12_4 < (x6_3.length : Int) := of_decide_eq_true (by first | (with_reducible assumption) | assumption)
                               obtain ⟨ad187, e187, hx187_0⟩ := Kd.at_int (Kd.R_reads' HO_6.out).2.2 x12_4 p187 q187
                               cases e187
                               replace p187 := eq_true p187
                               replace q187 := eq_true q187
                               go_wp2
                               go_roundg k4
                               case measure => have := HJ1.out; have := HK2.out; have := HK3.out; have := HK4.out; omega
                               case rel => exact ⟨(((rd x6_3 x12_4) != 1)), (wrap64 (x12_4 + 1)), (by first | rfl | (simp; done) | (simp [*]; done)), (by first | rfl | (simp; done) | (simp [*]; done)), H', ⟨by have := HJ1.out; have := HK2.out; have := HK3.out; have := HK4.out; omega⟩, ⟨by (with_reducible repeat (first | apply Kd.R_alloc | apply Kd.R_drewN | apply Kd.R_drew)); exact HO_6.out⟩, ⟨by (with_reducible repeat (first | apply Kd.R_alloc | apply Kd.R_drewN | apply Kd.R_drew)); exact HO_10.out⟩, ⟨by repeat (first | exact HB.out | apply below_alloc | apply pw_below_drewN | apply below_drew1)⟩⟩
                             · rw [if_neg c35] at H
                               exact absurd H (by simp)
                           · rw [if_neg c34] at H
                             exact absurd H (by simp)
                       · rw [if_neg c32] at H
                         have c32b0 : decide (x12_4 < (l0.length : Int)) = false := decide_eq_false c32
                         clear c32
                         have HC37 := Aside0.mk H
                         clear H
                         go_upto_if 100 with (fail)
                         go_cut [] (fun wc => ∃ (kq : Nat) (x10_36 : List Bool), Aside0 (purflingref04_Check.j6 kq l0 x6_3 x10_36 x11_4 = some (r1, r2)) ∧ Aside0 (kq ≤ k4) ∧ Aside0 (Kd.R (Kd.int .i64) 3 wc w.heap.size (fun _ => True) v177 x6_3) ∧ Aside0 (Kd.R Kd.bool 4 wc w.heap.size (fun _ => True) v185 x10_36) ∧ Aside0 (Below w.heap.size w wc))
                         case first =>
                          have H := HC37.out
                          clear HC37
                          by_cases c38 : x11_4 = true
                          · subst c38
                            have H1 : (purflingref04_Check.j6 k4 l0 x6_3 y184 true) = some (r1, r2) := by rw [if_pos rfl] at H; exact H
                            clear H
                            have H := H1
                            clear H1
                            have H' := Aside0.mk H
                            clear H
                            go_wp2
                            go_meet
                            case rel => exact ⟨_, (y184), H', ⟨by have := HJ1.out; have := HK2.out; have := HK3.out; have := HK4.out; first | omega | exact Nat.le_refl _⟩, ⟨by (with_reducible repeat (first | apply Kd.R_alloc | apply Kd.R_drewN | apply Kd.R_drew)); exact HO_6.out⟩, ⟨by (with_reducible repeat (first | apply Kd.R_alloc | apply Kd.R_drewN | apply Kd.R_drew)); exact HO_10.out⟩, ⟨by repeat (first | exact HB.out | apply below_alloc | apply pw_below_drewN | apply below_drew1)⟩⟩
                          · replace c38 := Bool.eq_false_iff.mpr c38
                            subst c38
                            have H1 : ((purflingref04_order.f k4 l0 0 ([] : List Int)).bind fun t188 => (purflingref04_Check.l4 k4 l0 x6_3 y184 false t188 0)) = some (r1, r2) := by rw [if_neg (show ¬ (false = true) by decide)] at H; exact H
                            clear H
                            have H := H1
                            clear H1
                            replace H := Option.bind_eq_some_iff.mp H
                            obtain ⟨t188, A390, H⟩ := H
                            replace H : (purflingref04_Check.l4 k4 l0 x6_3 y184 false t188 0) = some (r1, r2) := H
                            have A39 := Aside0.mk A390
                            clear A390
                            have H' := Aside0.mk H
                            clear H
                            go_wp2_with (first | ((with_reducible refine gate_callee (f := 29) rfl ?_); refine goesL_ (some 102) rfl rfl Try.func29 (by kernel_rfl) rfl #[.slice A0 l0.length c0, .int .i64 0, .slice none 0 0] rfl (by (try simp only [List.map_toArray, List.map_cons, List.map_nil]); first | done | rfl) ?_; (refine (purflingref04_order.calls k4 _ _ l0 0 (fun k_ => some k_ = (.slice none 0 0 : Value).ownBlock) (.slice none 0 0) ([] : List Int) t188 w _ ?side1 ?side2 ?side3 ?side4 A39.out).mono ?_); (case side1 => repeat (first | exact HB.out | apply below_alloc | apply pw_below_drewN | apply below_drew1)); (case side2 => exact Kd.C_kept_came k43_heap HR0.out (by repeat (first | exact HB.out | apply below_alloc | apply pw_below_drewN | apply below_drew1)) (fun k_ hs_ => (fun e_ => by simp [Value.ownBlock] at e_) hs_)); (case side3 => exact HC0.out); (case side4 => exact Kd.R_nil _ _ _ _ _); rintro e w40 ⟨v189, rfl, ho0, hb, hkp⟩; refine ⟨_, rfl, ?_⟩; have n0_ := Aside0.mk (Kd.R_mono (ok' := fun k_ => some k_ ≠ (v189 : Value).ownBlock) (Kd.R_keptB (HO_6.out) hkp (fun k_ hk_ hs_ => (fun e_ => by simp [Value.ownBlock] at e_) hs_)) (fun k_ hk_ => fun e_ => Or.elim (ho0.1 k_ e_.symm) (fun hs_ => hk_.2.1 hs_) (fun hn_ => Nat.not_le.2 hk_.2.2 hn_))); have n1_ := Aside0.mk (Kd.R_mono (ok' := fun k_ => True) (Kd.R_keptB (HO_10.out) hkp (fun k_ hk_ hs_ => (fun e_ => by simp [Value.ownBlock] at e_) hs_)) (fun k_ hk_ => trivial)); have n2_ := Aside0.mk (Kd.R_mono (ok' := fun k_ => some k_ ≠ (v177 : Value).ownBlock) ho0 (fun k_ hk_ => Or.elim hk_ (fun hs_ => absurd hs_ (by simp [Value.ownBlock])) (fun hn_ => (Kd.fresh' (Kd.R_lt (by (with_reducible repeat (first | apply Kd.R_alloc | apply Kd.R_drewN | apply Kd.R_drew)); exact HO_6.out)) k_ hn_)))); have n3_ := Aside0.mk (hb); clear HO_6; clear HO_10; clear HB; have HO_6 := n0_; have HO_10 := n1_; have HO190 := n2_; have HB := n3_; clear n0_ n1_ n2_ n3_; (try clear hb); (try clear hkp); (try clear ho0)))
                            go_loopg [14] k4 (fun kq v14 w' => ∃ (x10_5 : List Bool) (x14_5 : Int), v14 = .int .i64 x14_5 ∧ Aside0 (purflingref04_Check.l4 kq l0 x6_3 x10_5 false t188 x14_5 = some (r1, r2)) ∧ Aside0 (kq ≤ k4) ∧ Aside0 (Kd.R (Kd.int .i64) 3 w' w.heap.size (fun k_ => some k_ ≠ (v189 : Value).ownBlock) v177 x6_3) ∧ Aside0 (Kd.R Kd.bool 4 w' w.heap.size (fun _ => True) v185 x10_5) ∧ Aside0 (Kd.R (Kd.int .i64) 3 w' w.heap.size (fun k_ => some k_ ≠ (v177 : Value).ownBlock) v189 t188) ∧ Aside0 (Below w.heap.size w w'))
                            case atStart => exact ⟨(y184), (0), (by first | rfl | (simp; done) | (simp [*]; done)), H', ⟨Nat.le_refl _⟩, ⟨by (with_reducible repeat (first | apply Kd.R_alloc | apply Kd.R_drewN | apply Kd.R_drew)); exact HO_6.out⟩, ⟨by (with_reducible repeat (first | apply Kd.R_alloc | apply Kd.R_drewN | apply Kd.R_drew)); exact HO_10.out⟩, ⟨by (with_reducible repeat (first | apply Kd.R_alloc | apply Kd.R_drewN | apply Kd.R_drew)); exact HO190.out⟩, ⟨by repeat (first | exact HB.out | apply below_alloc | apply pw_below_drewN | apply below_drew1)⟩⟩
                            case round =>
                             clear H'
                             try clear c1
                             try clear p1
                             try clear q1
                             try clear hx1
                             try clear c2
                             try clear p2
                             try clear q2
                             try clear hx2
                             try clear hf2
                             try clear c3
                             try clear c3b0
                             try clear c3b1
                             try clear c4
                             try clear c5
                             try clear c5b0
                             try clear c6
                             try clear c6b0
                             try clear p6
                             try clear c8
                             try clear c11
                             try clear c11b0
                             try clear c11b1
                             try clear c12
                             try clear c12b0
                             try clear c12b1
                             try clear c15
                             try clear c15b0
                             try clear c16
                             try clear c16b0
                             try clear c17
                             try clear c17b0
                             try clear p17
                             try clear q17
                             try clear hx17
                             try clear c18
                             try clear c18b0
                             try clear p18
                             try clear q18
                             try clear hx18
                             try clear c19
                             try clear c19b0
                             try clear c20
                             try clear c20b0
                             try clear c21
                             try clear c21b0
                             try clear c22
                             try clear c22b0
                             try clear c23
                             try clear c23b0
                             try clear p24
                             try clear q24
                             try clear hx24
                             try clear hf24
                             try clear c28
                             try clear c28b0
                             try clear c28b1
                             try clear c29
                             try clear c29b0
                             try clear c29b1
                             try clear c32
                             try clear c32b0
                             try clear c33
                             try clear c34
                             try clear c34b0
                             try clear c35
                             try clear c35b0
                             try clear c38
                             try clear hx174_0
                             try clear hx174_1
                             try clear hx174_10
                             try clear hx174_11
                             try clear hx174_12
                             try clear hx174_13
                             try clear hx174_14
                             try clear hx174_15
                             try clear hx174_16
                             try clear hx174_17
                             try clear hx174_18
                             try clear hx174_19
                             try clear hx174_2
                             try clear hx174_20
                             try clear hx174_21
                             try clear hx174_22
                             try clear hx174_23
                             try clear hx174_24
                             try clear hx174_25
                             try clear hx174_26
                             try clear hx174_27
                             try clear hx174_28
                             try clear hx174_29
                             try clear hx174_3
                             try clear hx174_30
                             try clear hx174_31
                             try clear hx174_32
                             try clear hx174_33
                             try clear hx174_4
                             try clear hx174_5
                             try clear hx174_6
                             try clear hx174_7
                             try clear hx174_8
                             try clear hx174_9
                             try clear hx179_0
                             try clear hx179_1
                             try clear hx179_10
                             try clear hx179_11
                             try clear hx179_12
                             try clear hx179_13
                             try clear hx179_14
                             try clear hx179_15
                             try clear hx179_16
                             try clear hx179_17
                             try clear hx179_18
                             try clear hx179_19
                             try clear hx179_2
                             try clear hx179_20
                             try clear hx179_21
                             try clear hx179_22
                             try clear hx179_23
                             try clear hx179_24
                             try clear hx179_25
                             try clear hx179_26
                             try clear hx179_27
                             try clear hx179_28
                             try clear hx179_29
                             try clear hx179_3
                             try clear hx179_30
                             try clear hx179_31
                             try clear hx179_32
                             try clear hx179_33
                             try clear hx179_4
                             try clear hx179_5
                             try clear hx179_6
                             try clear hx179_7
                             try clear hx179_8
                             try clear hx179_9
                             try clear hx180_0
                             try clear hx180_1
                             try clear hx180_10
                             try clear hx180_11
                             try clear hx180_12
                             try clear hx180_13
                             try clear hx180_14
                             try clear hx180_15
                             try clear hx180_16
                             try clear hx180_17
                             try clear hx180_18
                             try clear hx180_19
                             try clear hx180_2
                             try clear hx180_20
                             try clear hx180_21
                             try clear hx180_22
                             try clear hx180_23
                             try clear hx180_24
                             try clear hx180_25
                             try clear hx180_26
                             try clear hx180_27
                             try clear hx180_28
                             try clear hx180_29
                             try clear hx180_3
                             try clear hx180_30
                             try clear hx180_31
                             try clear hx180_32
                             try clear hx180_33
                             try clear hx180_4
                             try clear hx180_5
                             try clear hx180_6
                             try clear hx180_7
                             try clear hx180_8
                             try clear hx180_9
                             try clear hx181_0
                             try clear hx182_0
                             try clear hx187_0
                             try clear hx24_0
                             try clear p1
                             try clear p17
                             try clear p174
                             try clear p179
                             try clear p18
                             try clear p180
                             try clear p181
                             try clear p182
                             try clear p187
                             try clear p2
                             try clear p24
                             try clear p6
                             try clear q1
                             try clear q17
                             try clear q174
                             try clear q179
                             try clear q18
                             try clear q180
                             try clear q181
                             try clear q182
                             try clear q187
                             try clear q2
                             try clear q24
                             obtain ⟨x10_5, x14_5, rfl, HA, HK5, HO_6, HO_10, HO_13, HB⟩ := hrel
                             cases gk with
                             | zero => exact absurd HA.out (by simp [purflingref04_Check.l4])
                             | succ k5 =>
                              have H := HA.out
                              clear HA
                              simp only [purflingref04_Check.l4] at H
                              by_cases c41 : x14_5 < (t188.length : Int)
                              · rw [if_pos c41] at H
                                have c41b0 : decide (x14_5 < (t188.length : Int)) = true := decide_eq_true c41
                                clear c41
                                (first | rw [c41b0] | (simp only [i64_w, i32_w]; rw [c41b0]) | skip)
                                by_cases c42 : 0 ≤ x14_5
                                · rw [if_pos c42] at H
                                  have c42b0 : decide (0 ≤ x14_5) = true := decide_eq_true c42
                                  clear c42
                                  by_cases c43 : 0 ≤ (rd t188 x14_5)
                                  · rw [if_pos c43] at H
                                    have c43b0 : decide (0 ≤ (rd t188 x14_5)) = true := decide_eq_true c43
                                    clear c43
                                    by_cases c44 : (rd t188 x14_5) < (x10_5.length : Int)
                                    · rw [if_pos c44] at H
                                      have c44b0 : decide ((rd t188 x14_5) < (x10_5.length : Int)) = true := decide_eq_true c44
                                      clear c44
                                      obtain ⟨y192, hy192⟩ : ∃ y_ : List Bool, y_ = (x10_5.set ((rd t188 x14_5) : Int).toNat true) := ⟨_, rfl⟩
                                      replace H : (purflingref04_Check.l4 k5 l0 x6_3 y192 false t188 (wrap64 (x14_5 + 1))) = some (r1, r2) := by first | (rw [hy192]; with_reducible exact H) | (have H2_ := (Option.bind_some _ _).symm.trans H; rw [hy192]; with_reducible exact H2_) | (have H2_ := (Option.bind_some _ _).symm.trans H; with_reducible exact H2_) | with_reducible exact H | (rw [hy192]; exact H) | exact H
                                      have Ny192 := Aside0.mk hy192
                                      clear hy192
                                      have H' := Aside0.mk H
                                      clear H
                                      obtain ⟨Ao46, co46, eo46⟩ := Kd.R_slice HO_13.out
                                      subst eo46
                                      have p191 : 0 ≤ (x14_5 : Int) := of_decide_eq_true (by first | (with_reducible assumption) | assumption)
                                      have q191 : x14_5 < (t188.length : Int) := of_decide_eq_true (by first | (with_reducible assumption) | assumption)
                                      obtain ⟨ad191, e191, hx191_0⟩ := Kd.at_int (Kd.R_reads' HO_13.out).2.2 x14_5 p191 q191
                                      cases e191
                                      replace p191 := eq_true p191
                                      replace q191 := eq_true q191
                                      have p45 : 0 ≤ ((rd t188 x14_5) : Int) := of_decide_eq_true (by first | (with_reducible assumption) | assumption)
                                      have q45 : ((rd t188 x14_5) : Int) < ((x10_5.length : Int) : Int) := of_decide_eq_true (by first | (with_reducible assumption) | assumption)
                                      obtain ⟨go45, co45, eo45, gb45, gl45, cl45, HG45⟩ := Kd.R_form HO_10.out (by omega)
                                      (first | cases eo45 | (injection eo45 with ea_ en_ ec_; (first | subst ea_ | (injection ea_ with ea_; subst ea_)); subst ec_; clear en_))
                                      have GB45 := Aside0.mk gb45
                                      have GG45 := Aside0.mk HG45
                                      clear gb45 gl45 HG45
                                      obtain ⟨hx45_0, hf45_0⟩ := Kd.R_celln false HO_10.out ((rd t188 x14_5) : Int) p45 q45
                                      replace p45 := eq_true p45
                                      replace q45 := eq_true q45
                                      have HP47 := Kd.R_putg HO_10.out ((rd t188 x14_5) : Int) true
                                      go_wp2_with (first | ((with_reducible refine gate_store (t := 4) (p := 114) rfl ?_); refine store_event (t := 4) (p := 114) (v := ?vo_w48) (w1 := (wr.setCell ⟨go45, ((rd t188 x14_5) : Int).toNat, none⟩ (.bool true))) ?hg ?ho ?hn ?hr ?_; (case ho => rfl); (case hg => rfl); (case hn => rfl); (case hr => first | (go_simp; done) | (go_simp; rfl)); intro w48 hw; have hg : wr.grownBy w48 (some go45) := (by rw [hw]; exact HP47.2); have hp_ : Kd.R Kd.bool 4 w48 w.heap.size (fun _ => True) (.slice (some ⟨go45, 0, none⟩) x10_5.length co45) y192 := (by rw [hw, Ny192.out]; exact HP47.1); clear HP47; have n0_ := Aside0.mk (Kd.R_over' (v := (.slice (some ⟨go45, 0, none⟩) x10_5.length co45)) (by (with_reducible repeat (first | apply Kd.R_alloc | apply Kd.R_drewN | apply Kd.R_drew)); exact HO_6.out) (Kd.R_typed HO_10.out) (by decide) hg); have n1_ := Aside0.mk (hp_); have n2_ := Aside0.mk (Kd.R_over' (v := (.slice (some ⟨go45, 0, none⟩) x10_5.length co45)) (by (with_reducible repeat (first | apply Kd.R_alloc | apply Kd.R_drewN | apply Kd.R_drew)); exact HO_13.out) (Kd.R_typed HO_10.out) (by decide) hg); have n3_ := Aside0.mk ((by rw [hw]; exact below_set (HB.out) GB45.out : Below w.heap.size w w48)); clear HO_6; clear HO_10; clear HO_13; clear HB; have HO_6 := n0_; have HO_10 := n1_; have HO_13 := n2_; have HB := n3_; clear n0_ n1_ n2_ n3_; clear hg hw hp_))
                                      go_roundg k5
                                      case measure => have := HJ1.out; have := HK2.out; have := HK3.out; have := HK4.out; have := HK5.out; omega
                                      case rel => exact ⟨(y192), (wrap64 (x14_5 + 1)), (by first | rfl | (simp; done) | (simp [*]; done)), H', ⟨by have := HJ1.out; have := HK2.out; have := HK3.out; have := HK4.out; have := HK5.out; omega⟩, ⟨by (with_reducible repeat (first | apply Kd.R_alloc | apply Kd.R_drewN | apply Kd.R_drew)); exact HO_6.out⟩, ⟨by (with_reducible repeat (first | apply Kd.R_alloc | apply Kd.R_drewN | apply Kd.R_drew)); exact HO_10.out⟩, ⟨by (with_reducible repeat (first | apply Kd.R_alloc | apply Kd.R_drewN | apply Kd.R_drew)); exact HO_13.out⟩, ⟨by repeat (first | exact HB.out | apply below_alloc | apply pw_below_drewN | apply below_drew1)⟩⟩
                                    · rw [if_neg c44] at H
                                      exact absurd H (by simp)
                                  · rw [if_neg c43] at H
                                    exact absurd H (by simp)
                                · rw [if_neg c42] at H
                                  exact absurd H (by simp)
                              · rw [if_neg c41] at H
                                have c41b0 : decide (x14_5 < (t188.length : Int)) = false := decide_eq_false c41
                                clear c41
                                (first | rw [c41b0] | (simp only [i64_w, i32_w]; rw [c41b0]) | skip)
                                have H' := Aside0.mk H
                                clear H
                                obtain ⟨Ao49, co49, eo49⟩ := Kd.R_slice HO_13.out
                                subst eo49
                                go_wp2
                                go_meet
                                case rel => exact ⟨_, (x10_5), H', ⟨by have := HJ1.out; have := HK2.out; have := HK3.out; have := HK4.out; have := HK5.out; first | omega | exact Nat.le_refl _⟩, ⟨by (with_reducible repeat (first | apply Kd.R_alloc | apply Kd.R_drewN | apply Kd.R_drew)); exact Kd.R_mono HO_6.out (fun _ hk => trivial)⟩, ⟨by (with_reducible repeat (first | apply Kd.R_alloc | apply Kd.R_drewN | apply Kd.R_drew)); exact HO_10.out⟩, ⟨by repeat (first | exact HB.out | apply below_alloc | apply pw_below_drewN | apply below_drew1)⟩⟩
                         case rest =>
                          clear HC37
                          try clear c1
                          try clear p1
                          try clear q1
                          try clear hx1
                          try clear c2
                          try clear p2
                          try clear q2
                          try clear hx2
                          try clear hf2
                          try clear c3
                          try clear c3b0
                          try clear c3b1
                          try clear c4
                          try clear p4
                          try clear q4
                          try clear hx4
                          try clear hf4
                          try clear c5
                          try clear c5b0
                          try clear c6
                          try clear c6b0
                          try clear p6
                          try clear c8
                          try clear c11
                          try clear c11b0
                          try clear c11b1
                          try clear c12
                          try clear c12b0
                          try clear c12b1
                          try clear c15
                          try clear c15b0
                          try clear c16
                          try clear c16b0
                          try clear c17
                          try clear c17b0
                          try clear p17
                          try clear q17
                          try clear hx17
                          try clear c18
                          try clear c18b0
                          try clear p18
                          try clear q18
                          try clear hx18
                          try clear c19
                          try clear c19b0
                          try clear p19
                          try clear q19
                          try clear hx19
                          try clear c20
                          try clear c20b0
                          try clear c21
                          try clear c21b0
                          try clear c22
                          try clear c22b0
                          try clear c23
                          try clear c23b0
                          try clear p24
                          try clear q24
                          try clear hx24
                          try clear hf24
                          try clear c28
                          try clear c28b0
                          try clear c28b1
                          try clear c29
                          try clear c29b0
                          try clear c29b1
                          try clear c32
                          try clear c32b0
                          try clear c33
                          try clear c34
                          try clear c34b0
                          try clear c35
                          try clear c35b0
                          try clear c38
                          try clear c41
                          try clear c41b0
                          try clear c42
                          try clear c42b0
                          try clear c43
                          try clear c43b0
                          try clear c44
                          try clear c44b0
                          try clear p45
                          try clear q45
                          try clear hx45
                          try clear hf45
                          try clear hx174_0
                          try clear hx174_1
                          try clear hx174_10
                          try clear hx174_11
                          try clear hx174_12
                          try clear hx174_13
                          try clear hx174_14
                          try clear hx174_15
                          try clear hx174_16
                          try clear hx174_17
                          try clear hx174_18
                          try clear hx174_19
                          try clear hx174_2
                          try clear hx174_20
                          try clear hx174_21
                          try clear hx174_22
                          try clear hx174_23
                          try clear hx174_24
                          try clear hx174_25
                          try clear hx174_26
                          try clear hx174_27
                          try clear hx174_28
                          try clear hx174_29
                          try clear hx174_3
                          try clear hx174_30
                          try clear hx174_31
                          try clear hx174_32
                          try clear hx174_33
                          try clear hx174_4
                          try clear hx174_5
                          try clear hx174_6
                          try clear hx174_7
                          try clear hx174_8
                          try clear hx174_9
                          try clear hx179_0
                          try clear hx179_1
                          try clear hx179_10
                          try clear hx179_11
                          try clear hx179_12
                          try clear hx179_13
                          try clear hx179_14
                          try clear hx179_15
                          try clear hx179_16
                          try clear hx179_17
                          try clear hx179_18
                          try clear hx179_19
                          try clear hx179_2
                          try clear hx179_20
                          try clear hx179_21
                          try clear hx179_22
                          try clear hx179_23
                          try clear hx179_24
                          try clear hx179_25
                          try clear hx179_26
                          try clear hx179_27
                          try clear hx179_28
                          try clear hx179_29
                          try clear hx179_3
                          try clear hx179_30
                          try clear hx179_31
                          try clear hx179_32
                          try clear hx179_33
                          try clear hx179_4
                          try clear hx179_5
                          try clear hx179_6
                          try clear hx179_7
                          try clear hx179_8
                          try clear hx179_9
                          try clear hx180_0
                          try clear hx180_1
                          try clear hx180_10
                          try clear hx180_11
                          try clear hx180_12
                          try clear hx180_13
                          try clear hx180_14
                          try clear hx180_15
                          try clear hx180_16
                          try clear hx180_17
                          try clear hx180_18
                          try clear hx180_19
                          try clear hx180_2
                          try clear hx180_20
                          try clear hx180_21
                          try clear hx180_22
                          try clear hx180_23
                          try clear hx180_24
                          try clear hx180_25
                          try clear hx180_26
                          try clear hx180_27
                          try clear hx180_28
                          try clear hx180_29
                          try clear hx180_3
                          try clear hx180_30
                          try clear hx180_31
                          try clear hx180_32
                          try clear hx180_33
                          try clear hx180_4
                          try clear hx180_5
                          try clear hx180_6
                          try clear hx180_7
                          try clear hx180_8
                          try clear hx180_9
                          try clear hx181_0
                          try clear hx182_0
                          try clear hx187_0
                          try clear hx191_0
                          try clear hx24_0
                          try clear hx45_0
                          try clear p1
                          try clear p17
                          try clear p174
                          try clear p179
                          try clear p18
                          try clear p180
                          try clear p181
                          try clear p182
                          try clear p187
                          try clear p191
                          try clear p2
                          try clear p24
                          try clear p45
                          try clear p6
                          try clear q1
                          try clear q17
                          try clear q174
                          try clear q179
                          try clear q18
                          try clear q180
                          try clear q181
                          try clear q182
                          try clear q187
                          try clear q191
                          try clear q2
                          try clear q24
                          try clear q45
                          obtain ⟨kq, x10_36, HA, HJ36, HO_6, HO_10, HB⟩ := hcut
                          cases kq with
                          | zero => exact absurd HA.out (by simp [purflingref04_Check.j6])
                          | succ kj36 =>
                           have H := HA.out
                           clear HA
                           simp only [purflingref04_Check.j6] at H
                           have H' := Aside0.mk H
                           clear H
                           go_wp2
                           go_loopg [15] kj36 (fun kq v15 w' => ∃ (x15_6 : Int), v15 = .int .i64 x15_6 ∧ Aside0 (purflingref04_Check.l5 kq l0 x6_3 x10_36 x11_4 x15_6 = some (r1, r2)) ∧ Aside0 (kq ≤ kj36) ∧ Aside0 (Kd.R (Kd.int .i64) 3 w' w.heap.size (fun _ => True) v177 x6_3) ∧ Aside0 (Kd.R Kd.bool 4 w' w.heap.size (fun _ => True) v185 x10_36) ∧ Aside0 (Below w.heap.size w w'))
                           case atStart => exact ⟨(1), (by first | rfl | (simp; done) | (simp [*]; done)), H', ⟨Nat.le_refl _⟩, ⟨by (with_reducible repeat (first | apply Kd.R_alloc | apply Kd.R_drewN | apply Kd.R_drew)); exact HO_6.out⟩, ⟨by (with_reducible repeat (first | apply Kd.R_alloc | apply Kd.R_drewN | apply Kd.R_drew)); exact HO_10.out⟩, ⟨by repeat (first | exact HB.out | apply below_alloc | apply pw_below_drewN | apply below_drew1)⟩⟩
                           case round =>
                            clear H'
                            try clear c1
                            try clear p1
                            try clear q1
                            try clear hx1
                            try clear c2
                            try clear p2
                            try clear q2
                            try clear hx2
                            try clear hf2
                            try clear c3
                            try clear c3b0
                            try clear c3b1
                            try clear c4
                            try clear p4
                            try clear q4
                            try clear hx4
                            try clear hf4
                            try clear c5
                            try clear c5b0
                            try clear c6
                            try clear c6b0
                            try clear p6
                            try clear c8
                            try clear c11
                            try clear c11b0
                            try clear c11b1
                            try clear c12
                            try clear c12b0
                            try clear c12b1
                            try clear c15
                            try clear c15b0
                            try clear c16
                            try clear c16b0
                            try clear c17
                            try clear c17b0
                            try clear p17
                            try clear q17
                            try clear hx17
                            try clear c18
                            try clear c18b0
                            try clear p18
                            try clear q18
                            try clear hx18
                            try clear c19
                            try clear c19b0
                            try clear p19
                            try clear q19
                            try clear hx19
                            try clear c20
                            try clear c20b0
                            try clear c21
                            try clear c21b0
                            try clear c22
                            try clear c22b0
                            try clear c23
                            try clear c23b0
                            try clear p24
                            try clear q24
                            try clear hx24
                            try clear hf24
                            try clear c28
                            try clear c28b0
                            try clear c28b1
                            try clear c29
                            try clear c29b0
                            try clear c29b1
                            try clear c32
                            try clear c32b0
                            try clear c33
                            try clear c34
                            try clear c34b0
                            try clear c35
                            try clear c35b0
                            try clear c38
                            try clear c41
                            try clear c41b0
                            try clear c42
                            try clear c42b0
                            try clear c43
                            try clear c43b0
                            try clear c44
                            try clear c44b0
                            try clear p45
                            try clear q45
                            try clear hx45
                            try clear hf45
                            try clear hx174_0
                            try clear hx174_1
                            try clear hx174_10
                            try clear hx174_11
                            try clear hx174_12
                            try clear hx174_13
                            try clear hx174_14
                            try clear hx174_15
                            try clear hx174_16
                            try clear hx174_17
                            try clear hx174_18
                            try clear hx174_19
                            try clear hx174_2
                            try clear hx174_20
                            try clear hx174_21
                            try clear hx174_22
                            try clear hx174_23
                            try clear hx174_24
                            try clear hx174_25
                            try clear hx174_26
                            try clear hx174_27
                            try clear hx174_28
                            try clear hx174_29
                            try clear hx174_3
                            try clear hx174_30
                            try clear hx174_31
                            try clear hx174_32
                            try clear hx174_33
                            try clear hx174_4
                            try clear hx174_5
                            try clear hx174_6
                            try clear hx174_7
                            try clear hx174_8
                            try clear hx174_9
                            try clear hx179_0
                            try clear hx179_1
                            try clear hx179_10
                            try clear hx179_11
                            try clear hx179_12
                            try clear hx179_13
                            try clear hx179_14
                            try clear hx179_15
                            try clear hx179_16
                            try clear hx179_17
                            try clear hx179_18
                            try clear hx179_19
                            try clear hx179_2
                            try clear hx179_20
                            try clear hx179_21
                            try clear hx179_22
                            try clear hx179_23
                            try clear hx179_24
                            try clear hx179_25
                            try clear hx179_26
                            try clear hx179_27
                            try clear hx179_28
                            try clear hx179_29
                            try clear hx179_3
                            try clear hx179_30
                            try clear hx179_31
                            try clear hx179_32
                            try clear hx179_33
                            try clear hx179_4
                            try clear hx179_5
                            try clear hx179_6
                            try clear hx179_7
                            try clear hx179_8
                            try clear hx179_9
                            try clear hx180_0
                            try clear hx180_1
                            try clear hx180_10
                            try clear hx180_11
                            try clear hx180_12
                            try clear hx180_13
                            try clear hx180_14
                            try clear hx180_15
                            try clear hx180_16
                            try clear hx180_17
                            try clear hx180_18
                            try clear hx180_19
                            try clear hx180_2
                            try clear hx180_20
                            try clear hx180_21
                            try clear hx180_22
                            try clear hx180_23
                            try clear hx180_24
                            try clear hx180_25
                            try clear hx180_26
                            try clear hx180_27
                            try clear hx180_28
                            try clear hx180_29
                            try clear hx180_3
                            try clear hx180_30
                            try clear hx180_31
                            try clear hx180_32
                            try clear hx180_33
                            try clear hx180_4
                            try clear hx180_5
                            try clear hx180_6
                            try clear hx180_7
                            try clear hx180_8
                            try clear hx180_9
                            try clear hx181_0
                            try clear hx182_0
                            try clear hx187_0
                            try clear hx191_0
                            try clear hx24_0
                            try clear hx45_0
                            try clear p1
                            try clear p17
                            try clear p174
                            try clear p179
                            try clear p18
                            try clear p180
                            try clear p181
                            try clear p182
                            try clear p187
                            try clear p19
                            try clear p191
                            try clear p2
                            try clear p24
                            try clear p4
                            try clear p45
                            try clear p6
                            try clear q1
                            try clear q17
                            try clear q174
                            try clear q179
                            try clear q18
                            try clear q180
                            try clear q181
                            try clear q182
                            try clear q187
                            try clear q19
                            try clear q191
                            try clear q2
                            try clear q24
                            try clear q4
                            try clear q45
                            obtain ⟨x15_6, rfl, HA, HK6, HO_6, HO_10, HB⟩ := hrel
                            cases gk with
                            | zero => exact absurd HA.out (by simp [purflingref04_Check.l5])
                            | succ k6 =>
                             have H := HA.out
                             clear HA
                             simp only [purflingref04_Check.l5] at H
                             by_cases c50 : x15_6 < (l0.length : Int)
                             · rw [if_pos c50] at H
                               have c50b0 : decide (x15_6 < (l0.length : Int)) = true := decide_eq_true c50
                               clear c50
                               by_cases c51 : 0 ≤ x15_6
                               · rw [if_pos c51] at H
                                 have c51b0 : decide (0 ≤ x15_6) = true := decide_eq_true c51
                                 clear c51
                                 by_cases c52 : x15_6 < (x6_3.length : Int)
                                 · rw [if_pos c52] at H
                                   have c52b0 : decide (x15_6 < (x6_3.length : Int)) = true := decide_eq_true c52
                                   clear c52
                                   by_cases c53 : (rd x6_3 x15_6) = 1
                                   · rw [if_pos c53] at H
                                     have c53b0 : ((rd x6_3 x15_6) == 1) = true := beq_iff_eq.mpr c53
                                     have c53b1 : ((rd x6_3 x15_6) != 1) = false := bne_eq_false_iff_eq.mpr c53
                                     clear c53
                                     by_cases c54 : x11_4 = true
                                     · subst c54
                                       have H1 : ((purflingref04_reached.f k6 l0 x15_6).bind fun t194 => (if t194 = true then (purflingref04_Check.l5 k6 l0 x6_3 x10_36 true (wrap64 (x15_6 + 1))) else (some (x15_6, 41)))) = some (r1, r2) := by rw [if_pos rfl] at H; exact H
                                       clear H
                                       have H := H1
                                       clear H1
                                       replace H := Option.bind_eq_some_iff.mp H
                                       obtain ⟨t194, A550, H⟩ := H
                                       replace H : (if t194 = true then (purflingref04_Check.l5 k6 l0 x6_3 x10_36 true (wrap64 (x15_6 + 1))) else (some (x15_6, 41))) = some (r1, r2) := H
                                       have A55 := Aside0.mk A550
                                       clear A550
                                       by_cases c56 : t194 = true
                                       · subst c56
                                         have H1 : (purflingref04_Check.l5 k6 l0 x6_3 x10_36 true (wrap64 (x15_6 + 1))) = some (r1, r2) := by rw [if_pos rfl] at H; exact H
                                         clear H
                                         have H := H1
                                         clear H1
                                         have H' := Aside0.mk H
                                         clear H
                                         obtain ⟨Ao57, co57, eo57⟩ := Kd.R_slice HO_6.out
                                         subst eo57
                                         have p193 : 0 ≤ (x15_6 : Int) := of_decide_eq_true (by first | (with_reducible assumption) | assumption)
                                         have q193 : x15_6 < (x6_3.length : Int) := of_decide_eq_true (by first | (with_reducible assumption) | assumption)
                                         obtain ⟨ad193, e193, hx193_0⟩ := Kd.at_int (Kd.R_reads' HO_6.out).2.2 x15_6 p193 q193
                                         cases e193
                                         replace p193 := eq_true p193
                                         replace q193 := eq_true q193
                                         go_wp2_with (first | (go_at_call 32; (with_reducible refine (purflingref04_reached.calls k6 _ _ l0 x15_6 true _ ?side1 ?side2 A55.out).mono ?_); (case side1 => repeat (first | exact (Kd.C_below HR0.out HB.out) | (with_reducible refine Kd.C_alloc ?_ _) | (with_reducible refine Kd.C_drewN ?_ _) | (with_reducible refine Kd.C_drew ?_))); (case side2 => exact HC0.out); rintro e w58 ⟨rfl, hb⟩; have n0_ := Aside0.mk (Kd.R_below (by (with_reducible repeat (first | apply Kd.R_alloc | apply Kd.R_drewN | apply Kd.R_drew)); exact HO_6.out) hb); have n1_ := Aside0.mk (Kd.R_below (by (with_reducible repeat (first | apply Kd.R_alloc | apply Kd.R_drewN | apply Kd.R_drew)); exact HO_10.out) hb); have n2_ := Aside0.mk (below_step (by repeat (first | exact HB.out | apply below_alloc | apply pw_below_drewN | apply below_drew1)) hb); clear HO_6; clear HO_10; clear HB; have HO_6 := n0_; have HO_10 := n1_; have HB := n2_; clear n0_ n1_ n2_; (try clear hb); (try clear hb2); (try clear hk); (try clear hi)))
                                         go_roundg k6
                                         case measure => have := HJ1.out; have := HK2.out; have := HK3.out; have := HK4.out; have := HJ36.out; have := HK6.out; omega
                                         case rel => exact ⟨(wrap64 (x15_6 + 1)), (by first | rfl | (simp; done) | (simp [*]; done)), H', ⟨by have := HJ1.out; have := HK2.out; have := HK3.out; have := HK4.out; have := HJ36.out; have := HK6.out; omega⟩, ⟨by (with_reducible repeat (first | apply Kd.R_alloc | apply Kd.R_drewN | apply Kd.R_drew)); exact HO_6.out⟩, ⟨by (with_reducible repeat (first | apply Kd.R_alloc | apply Kd.R_drewN | apply Kd.R_drew)); exact HO_10.out⟩, ⟨by repeat (first | exact HB.out | apply below_alloc | apply pw_below_drewN | apply below_drew1)⟩⟩
                                       · replace c56 := Bool.eq_false_iff.mpr c56
                                         subst c56
                                         have H1 : (some (x15_6, 41)) = some (r1, r2) := by rw [if_neg (show ¬ (false = true) by decide)] at H; exact H
                                         clear H
                                         have H := H1
                                         clear H1
                                         simp only [Option.some.injEq, Prod.mk.injEq] at H
                                         obtain ⟨rfl, rfl⟩ := H
                                         obtain ⟨Ao59, co59, eo59⟩ := Kd.R_slice HO_6.out
                                         subst eo59
                                         have p193 : 0 ≤ (x15_6 : Int) := of_decide_eq_true (by first | (with_reducible assumption) | assumption)
                                         have q193 : x15_6 < (x6_3.length : Int) := of_decide_eq_true (by first | (with_reducible assumption) | assumption)
                                         obtain ⟨ad193, e193, hx193_0⟩ := Kd.at_int (Kd.R_reads' HO_6.out).2.2 x15_6 p193 q193
                                         cases e193
                                         replace p193 := eq_true p193
                                         replace q193 := eq_true q193
                                         go_wp2_with (first | (go_at_call 32; (with_reducible refine (purflingref04_reached.calls k6 _ _ l0 x15_6 false _ ?side1 ?side2 A55.out).mono ?_); (case side1 => repeat (first | exact (Kd.C_below HR0.out HB.out) | (with_reducible refine Kd.C_alloc ?_ _) | (with_reducible refine Kd.C_drewN ?_ _) | (with_reducible refine Kd.C_drew ?_))); (case side2 => exact HC0.out); rintro e w60 ⟨rfl, hb⟩; have n0_ := Aside0.mk (Kd.R_below (by (with_reducible repeat (first | apply Kd.R_alloc | apply Kd.R_drewN | apply Kd.R_drew)); exact HO_6.out) hb); have n1_ := Aside0.mk (Kd.R_below (by (with_reducible repeat (first | apply Kd.R_alloc | apply Kd.R_drewN | apply Kd.R_drew)); exact HO_10.out) hb); have n2_ := Aside0.mk (below_step (by repeat (first | exact HB.out | apply below_alloc | apply pw_below_drewN | apply below_drew1)) hb); clear HO_6; clear HO_10; clear HB; have HO_6 := n0_; have HO_10 := n1_; have HB := n2_; clear n0_ n1_ n2_; (try clear hb); (try clear hb2); (try clear hk); (try clear hi)))
                                         go_ret2
                                         exact ⟨by first | rfl | (simp [errW_none, errW_some] <;> rfl) | (simp [*, errW_none, errW_some] <;> rfl), by repeat (first | exact HB.out | apply below_alloc | apply pw_below_drewN | apply below_drew1)⟩
                                     · replace c54 := Bool.eq_false_iff.mpr c54
                                       subst c54
                                       have H1 : (if x15_6 < (x10_36.length : Int) then (if rdOf false x10_36 x15_6 = true then (purflingref04_Check.l5 k6 l0 x6_3 x10_36 false (wrap64 (x15_6 + 1))) else (some (x15_6, 41))) else (none)) = some (r1, r2) := by rw [if_neg (show ¬ (false = true) by decide)] at H; exact H
                                       clear H
                                       have H := H1
                                       clear H1
                                       by_cases c61 : x15_6 < (x10_36.length : Int)
                                       · rw [if_pos c61] at H
                                         have c61b0 : decide (x15_6 < (x10_36.length : Int)) = true := decide_eq_true c61
                                         clear c61
                                         obtain ⟨bq62, hbq62⟩ : ∃ b_ : Bool, b_ = (rdOf false x10_36 x15_6) := ⟨_, rfl⟩
                                         replace H : (if bq62 = true then (purflingref04_Check.l5 k6 l0 x6_3 x10_36 false (wrap64 (x15_6 + 1))) else (some (x15_6, 41))) = some (r1, r2) := by rw [← hbq62] at H; exact H
                                         have Nbq62 := Aside0.mk hbq62
                                         clear hbq62
                                         by_cases c63 : bq62 = true
                                         · subst c63
                                           have H1 : (purflingref04_Check.l5 k6 l0 x6_3 x10_36 false (wrap64 (x15_6 + 1))) = some (r1, r2) := by rw [if_pos rfl] at H; exact H
                                           clear H
                                           have H := H1
                                           clear H1
                                           have H' := Aside0.mk H
                                           clear H
                                           obtain ⟨Ao64, co64, eo64⟩ := Kd.R_slice HO_6.out
                                           subst eo64
                                           have p193 : 0 ≤ (x15_6 : Int) := of_decide_eq_true (by first | (with_reducible assumption) | assumption)
                                           have q193 : x15_6 < (x6_3.length : Int) := of_decide_eq_true (by first | (with_reducible assumption) | assumption)
                                           obtain ⟨ad193, e193, hx193_0⟩ := Kd.at_int (Kd.R_reads' HO_6.out).2.2 x15_6 p193 q193
                                           cases e193
                                           replace p193 := eq_true p193
                                           replace q193 := eq_true q193
                                           obtain ⟨Ao65, co65, eo65⟩ := Kd.R_slice HO_10.out
                                           subst eo65
                                           have p195 : 0 ≤ (x15_6 : Int) := of_decide_eq_true (by first | (with_reducible assumption) | assumption)
                                           have q195 : x15_6 < (x10_36.length : Int) := of_decide_eq_true (by first | (with_reducible assumption) | assumption)
                                           obtain ⟨ad195, e195, hx195_0⟩ := Kd.at_bool (Kd.R_reads' HO_10.out).2.2 x15_6 p195 q195
                                           (try rw [← Nbq62.out] at hx195_0)
                                           cases e195
                                           replace p195 := eq_true p195
                                           replace q195 := eq_true q195
                                           go_wp2
                                           go_roundg k6
                                           case measure => have := HJ1.out; have := HK2.out; have := HK3.out; have := HK4.out; have := HJ36.out; have := HK6.out; omega
                                           case rel => exact ⟨(wrap64 (x15_6 + 1)), (by first | rfl | (simp; done) | (simp [*]; done)), H', ⟨by have := HJ1.out; have := HK2.out; have := HK3.out; have := HK4.out; have := HJ36.out; have := HK6.out; omega⟩, ⟨by (with_reducible repeat (first | apply Kd.R_alloc | apply Kd.R_drewN | apply Kd.R_drew)); exact HO_6.out⟩, ⟨by (with_reducible repeat (first | apply Kd.R_alloc | apply Kd.R_drewN | apply Kd.R_drew)); exact HO_10.out⟩, ⟨by repeat (first | exact HB.out | apply below_alloc | apply pw_below_drewN | apply below_drew1)⟩⟩
                                         · replace c63 := Bool.eq_false_iff.mpr c63
                                           subst c63
                                           have H1 : (some (x15_6, 41)) = some (r1, r2) := by rw [if_neg (show ¬ (false = true) by decide)] at H; exact H
                                           clear H
                                           have H := H1
                                           clear H1
                                           simp only [Option.some.injEq, Prod.mk.injEq] at H
                                           obtain ⟨rfl, rfl⟩ := H
                                           obtain ⟨Ao66, co66, eo66⟩ := Kd.R_slice HO_6.out
                                           subst eo66
                                           have p193 : 0 ≤ (x15_6 : Int) := of_decide_eq_true (by first | (with_reducible assumption) | assumption)
                                           have q193 : x15_6 < (x6_3.length : Int) := of_decide_eq_true (by first | (with_reducible assumption) | assumption)
                                           obtain ⟨ad193, e193, hx193_0⟩ := Kd.at_int (Kd.R_reads' HO_6.out).2.2 x15_6 p193 q193
                                           cases e193
                                           replace p193 := eq_true p193
                                           replace q193 := eq_true q193
                                           obtain ⟨Ao67, co67, eo67⟩ := Kd.R_slice HO_10.out
                                           subst eo67
                                           have p195 : 0 ≤ (x15_6 : Int) := of_decide_eq_true (by first | (with_reducible assumption) | assumption)
                                           have q195 : x15_6 < (x10_36.length : Int) := of_decide_eq_true (by first | (with_reducible assumption) | assumption)
                                           obtain ⟨ad195, e195, hx195_0⟩ := Kd.at_bool (Kd.R_reads' HO_10.out).2.2 x15_6 p195 q195
                                           (try rw [← Nbq62.out] at hx195_0)
                                           cases e195
                                           replace p195 := eq_true p195
                                           replace q195 := eq_true q195
                                           go_wp2
                                           go_ret2
                                           exact ⟨by first | rfl | (simp [errW_none, errW_some] <;> rfl) | (simp [*, errW_none, errW_some] <;> rfl), by repeat (first | exact HB.out | apply below_alloc | apply pw_below_drewN | apply below_drew1)⟩
                                       · rw [if_neg c61] at H
                                         exact absurd H (by simp)
                                   · rw [if_neg c53] at H
                                     have c53b0 : ((rd x6_3 x15_6) == 1) = false := beq_eq_false_iff_ne.mpr c53
                                     have c53b1 : ((rd x6_3 x15_6) != 1) = true := bne_iff_ne.mpr c53
                                     simp only [Option.some.injEq, Prod.mk.injEq] at H
                                     obtain ⟨rfl, rfl⟩ := H
                                     obtain ⟨Ao68, co68, eo68⟩ := Kd.R_slice HO_6.out
                                     subst eo68
                                     have p193 : 0 ≤ (x15_6 : Int) := of_decide_eq_true (by first | (with_reducible assumption) | assumption)
                                     have q193 : x15_6 < (x6_3.length : Int) := of_decide_eq_true (by first | (with_reducible assumption) | assumption)
                                     obtain ⟨ad193, e193, hx193_0⟩ := Kd.at_int (Kd.R_reads' HO_6.out).2.2 x15_6 p193 q193
                                     cases e193
                                     replace p193 := eq_true p193
                                     replace q193 := eq_true q193
                                     go_wp2
                                     go_ret2
                                     exact ⟨by first | rfl | (simp [errW_none, errW_some] <;> rfl) | (simp [*, errW_none, errW_some] <;> rfl), by repeat (first | exact HB.out | apply below_alloc | apply pw_below_drewN | apply below_drew1)⟩
                                 · rw [if_neg c52] at H
                                   exact absurd H (by simp)
                               · rw [if_neg c51] at H
                                 exact absurd H (by simp)
                             · rw [if_neg c50] at H
                               have c50b0 : decide (x15_6 < (l0.length : Int)) = false := decide_eq_false c50
                               clear c50
                               replace H := Option.bind_eq_some_iff.mp H
                               obtain ⟨t196, A690, H⟩ := H
                               replace H : (purflingref04_Check.l6 k6 l0 t196 0) = some (r1, r2) := H
                               have A69 := Aside0.mk A690
                               clear A690
                               have H' := Aside0.mk H
                               clear H
                               go_wp2_with (first | ((with_reducible refine gate_callee (f := 33) rfl ?_); refine goesL_ (some 148) rfl rfl Try.func33 (by kernel_rfl) rfl #[.slice A0 l0.length c0] rfl (by (try simp only [List.map_toArray, List.map_cons, List.map_nil]); first | done | rfl) ?_; (with_reducible refine (purflingref04_depths.calls k6 _ _ l0 t196 _ ?side1 ?side2 A69.out).mono ?_); (case side1 => repeat (first | exact (Kd.C_below HR0.out HB.out) | (with_reducible refine Kd.C_alloc ?_ _) | (with_reducible refine Kd.C_drewN ?_ _) | (with_reducible refine Kd.C_drew ?_))); (case side2 => exact HC0.out); rintro e w70 ⟨v197, rfl, ho0, hb⟩; refine ⟨_, rfl, ?_⟩; have n0_ := Aside0.mk (Kd.R_elder' (by (with_reducible repeat (first | apply Kd.R_alloc | apply Kd.R_drewN | apply Kd.R_drew)); exact HO_6.out) (Kd.R_base ho0) hb); have n1_ := Aside0.mk (Kd.R_below (by (with_reducible repeat (first | apply Kd.R_alloc | apply Kd.R_drewN | apply Kd.R_drew)); exact HO_10.out) hb); have n2_ := Aside0.mk (Kd.R_lower (Kd.R_new' ho0 (Kd.R_lt (by (with_reducible repeat (first | apply Kd.R_alloc | apply Kd.R_drewN | apply Kd.R_drew)); exact HO_6.out))) (below_size (by repeat (first | exact HB.out | apply below_alloc | apply pw_below_drewN | apply below_drew1)))); have n3_ := Aside0.mk (below_step (by repeat (first | exact HB.out | apply below_alloc | apply pw_below_drewN | apply below_drew1)) hb); clear HO_6; clear HO_10; clear HB; have HO_6 := n0_; have HO_10 := n1_; have HO198 := n2_; have HB := n3_; clear n0_ n1_ n2_ n3_; (try clear hb); (try clear hb2); (try clear hk); (try clear hi); (try clear ho0)))
                               go_loopg [17] k6 (fun kq v17 w' => ∃ (x17_7 : Int), v17 = .int .i64 x17_7 ∧ Aside0 (purflingref04_Check.l6 kq l0 t196 x17_7 = some (r1, r2)) ∧ Aside0 (kq ≤ k6) ∧ Aside0 (Kd.R (Kd.int .i64) 3 w' w.heap.size (fun _ => True) v197 t196) ∧ Aside0 (Below w.heap.size w w'))
                               case atStart => exact ⟨(0), (by first | rfl | (simp; done) | (simp [*]; done)), H', ⟨Nat.le_refl _⟩, ⟨by (with_reducible repeat (first | apply Kd.R_alloc | apply Kd.R_drewN | apply Kd.R_drew)); exact Kd.R_mono HO198.out (fun _ hk => trivial)⟩, ⟨by repeat (first | exact HB.out | apply below_alloc | apply pw_below_drewN | apply below_drew1)⟩⟩
                               case round =>
                                clear H'
                                try clear c1
                                try clear p1
                                try clear q1
                                try clear hx1
                                try clear c2
                                try clear p2
                                try clear q2
                                try clear hx2
                                try clear hf2
                                try clear c3
                                try clear c3b0
                                try clear c3b1
                                try clear c4
                                try clear p4
                                try clear q4
                                try clear hx4
                                try clear hf4
                                try clear c5
                                try clear c5b0
                                try clear c6
                                try clear c6b0
                                try clear p6
                                try clear q6
                                try clear c8
                                try clear c11
                                try clear c11b0
                                try clear c11b1
                                try clear c12
                                try clear c12b0
                                try clear c12b1
                                try clear c15
                                try clear c15b0
                                try clear c16
                                try clear c16b0
                                try clear c17
                                try clear c17b0
                                try clear p17
                                try clear q17
                                try clear hx17
                                try clear c18
                                try clear c18b0
                                try clear p18
                                try clear q18
                                try clear hx18
                                try clear c19
                                try clear c19b0
                                try clear p19
                                try clear q19
                                try clear hx19
                                try clear c20
                                try clear c20b0
                                try clear c21
                                try clear c21b0
                                try clear c22
                                try clear c22b0
                                try clear c23
                                try clear c23b0
                                try clear p24
                                try clear q24
                                try clear hx24
                                try clear hf24
                                try clear c28
                                try clear c28b0
                                try clear c28b1
                                try clear c29
                                try clear c29b0
                                try clear c29b1
                                try clear c32
                                try clear c32b0
                                try clear c33
                                try clear c34
                                try clear c34b0
                                try clear c35
                                try clear c35b0
                                try clear c38
                                try clear c41
                                try clear c41b0
                                try clear c42
                                try clear c42b0
                                try clear c43
                                try clear c43b0
                                try clear c44
                                try clear c44b0
                                try clear p45
                                try clear q45
                                try clear hx45
                                try clear hf45
                                try clear c50
                                try clear c50b0
                                try clear c51
                                try clear c51b0
                                try clear c52
                                try clear c52b0
                                try clear c53
                                try clear c53b0
                                try clear c53b1
                                try clear c54
                                try clear c56
                                try clear c61
                                try clear c61b0
                                try clear q62
                                try clear c63
                                try clear p64
                                try clear hx174_0
                                try clear hx174_1
                                try clear hx174_10
                                try clear hx174_11
                                try clear hx174_12
                                try clear hx174_13
                                try clear hx174_14
                                try clear hx174_15
                                try clear hx174_16
                                try clear hx174_17
                                try clear hx174_18
                                try clear hx174_19
                                try clear hx174_2
                                try clear hx174_20
                                try clear hx174_21
                                try clear hx174_22
                                try clear hx174_23
                                try clear hx174_24
                                try clear hx174_25
                                try clear hx174_26
                                try clear hx174_27
                                try clear hx174_28
                                try clear hx174_29
                                try clear hx174_3
                                try clear hx174_30
                                try clear hx174_31
                                try clear hx174_32
                                try clear hx174_33
                                try clear hx174_4
                                try clear hx174_5
                                try clear hx174_6
                                try clear hx174_7
                                try clear hx174_8
                                try clear hx174_9
                                try clear hx179_0
                                try clear hx179_1
                                try clear hx179_10
                                try clear hx179_11
                                try clear hx179_12
                                try clear hx179_13
                                try clear hx179_14
                                try clear hx179_15
                                try clear hx179_16
                                try clear hx179_17
                                try clear hx179_18
                                try clear hx179_19
                                try clear hx179_2
                                try clear hx179_20
                                try clear hx179_21
                                try clear hx179_22
                                try clear hx179_23
                                try clear hx179_24
                                try clear hx179_25
                                try clear hx179_26
                                try clear hx179_27
                                try clear hx179_28
                                try clear hx179_29
                                try clear hx179_3
                                try clear hx179_30
                                try clear hx179_31
                                try clear hx179_32
                                try clear hx179_33
                                try clear hx179_4
                                try clear hx179_5
                                try clear hx179_6
                                try clear hx179_7
                                try clear hx179_8
                                try clear hx179_9
                                try clear hx180_0
                                try clear hx180_1
                                try clear hx180_10
                                try clear hx180_11
                                try clear hx180_12
                                try clear hx180_13
                                try clear hx180_14
                                try clear hx180_15
                                try clear hx180_16
                                try clear hx180_17
                                try clear hx180_18
                                try clear hx180_19
                                try clear hx180_2
                                try clear hx180_20
                                try clear hx180_21
                                try clear hx180_22
                                try clear hx180_23
                                try clear hx180_24
                                try clear hx180_25
                                try clear hx180_26
                                try clear hx180_27
                                try clear hx180_28
                                try clear hx180_29
                                try clear hx180_3
                                try clear hx180_30
                                try clear hx180_31
                                try clear hx180_32
                                try clear hx180_33
                                try clear hx180_4
                                try clear hx180_5
                                try clear hx180_6
                                try clear hx180_7
                                try clear hx180_8
                                try clear hx180_9
                                try clear hx181_0
                                try clear hx182_0
                                try clear hx187_0
                                try clear hx191_0
                                try clear hx193_0
                                try clear hx195_0
                                try clear hx24_0
                                try clear hx45_0
                                try clear p1
                                try clear p17
                                try clear p174
                                try clear p179
                                try clear p18
                                try clear p180
                                try clear p181
                                try clear p182
                                try clear p187
                                try clear p19
                                try clear p191
                                try clear p193
                                try clear p195
                                try clear p2
                                try clear p24
                                try clear p4
                                try clear p45
                                try clear p6
                                try clear q1
                                try clear q17
                                try clear q174
                                try clear q179
                                try clear q18
                                try clear q180
                                try clear q181
                                try clear q182
                                try clear q187
                                try clear q19
                                try clear q191
                                try clear q193
                                try clear q195
                                try clear q2
                                try clear q24
                                try clear q4
                                try clear q45
                                obtain ⟨x17_7, rfl, HA, HK7, HO_16, HB⟩ := hrel
                                cases gk with
                                | zero => exact absurd HA.out (by simp [purflingref04_Check.l6])
                                | succ k7 =>
                                 have H := HA.out
                                 clear HA
                                 simp only [purflingref04_Check.l6] at H
                                 by_cases c71 : x17_7 < (l0.length : Int)
                                 · rw [if_pos c71] at H
                                   have c71b0 : decide (x17_7 < (l0.length : Int)) = true := decide_eq_true c71
                                   clear c71
                                   by_cases c72 : 0 ≤ x17_7
                                   · rw [if_pos c72] at H
                                     have c72b0 : decide (0 ≤ x17_7) = true := decide_eq_true c72
                                     clear c72
                                     by_cases c73 : x17_7 < (t196.length : Int)
                                     · rw [if_pos c73] at H
                                       have c73b0 : decide (x17_7 < (t196.length : Int)) = true := decide_eq_true c73
                                       clear c73
                                       by_cases c74 : (rd t196 x17_7) > 64
                                       · rw [if_pos c74] at H
                                         have c74b0 : decide (64 < (rd t196 x17_7)) = true := decide_eq_true c74
                                         clear c74
                                         simp only [Option.some.injEq, Prod.mk.injEq] at H
                                         obtain ⟨rfl, rfl⟩ := H
                                         obtain ⟨Ao75, co75, eo75⟩ := Kd.R_slice HO_16.out
                                         subst eo75
                                         have p199 : 0 ≤ (x17_7 : Int) := of_decide_eq_true (by first | (with_reducible assumption) | assumption)
                                         have q199 : x17_7 < (t196.length : Int) := of_decide_eq_true (by first | (with_reducible assumption) | assumption)
                                         obtain ⟨ad199, e199, hx199_0⟩ := Kd.at_int (Kd.R_reads' HO_16.out).2.2 x17_7 p199 q199
                                         cases e199
                                         replace p199 := eq_true p199
                                         replace q199 := eq_true q199
                                         go_wp2
                                         go_ret2
                                         exact ⟨by first | rfl | (simp [errW_none, errW_some] <;> rfl) | (simp [*, errW_none, errW_some] <;> rfl), by repeat (first | exact HB.out | apply below_alloc | apply pw_below_drewN | apply below_drew1)⟩
                                       · rw [if_neg c74] at H
                                         have c74b0 : decide (64 < (rd t196 x17_7)) = false := decide_eq_false c74
                                         clear c74
                                         have H' := Aside0.mk H
                                         clear H
                                         obtain ⟨Ao76, co76, eo76⟩ := Kd.R_slice HO_16.out
                                         subst eo76
                                         have p199 : 0 ≤ (x17_7 : Int) := of_decide_eq_true (by first | (with_reducible assumption) | assumption)
                                         have q199 : x17_7 < (t196.length : Int) := of_decide_eq_true (by first | (with_reducible assumption) | assumption)
                                         obtain ⟨ad199, e199, hx199_0⟩ := Kd.at_int (Kd.R_reads' HO_16.out).2.2 x17_7 p199 q199
                                         cases e199
                                         replace p199 := eq_true p199
                                         replace q199 := eq_true q199
                                         go_wp2
                                         go_roundg k7
                                         case measure => have := HJ1.out; have := HK2.out; have := HK3.out; have := HK4.out; have := HJ36.out; have := HK6.out; have := HK7.out; omega
                                         case rel => exact ⟨(wrap64 (x17_7 + 1)), (by first | rfl | (simp; done) | (simp [*]; done)), H', ⟨by have := HJ1.out; have := HK2.out; have := HK3.out; have := HK4.out; have := HJ36.out; have := HK6.out; have := HK7.out; omega⟩, ⟨by (with_reducible repeat (first | apply Kd.R_alloc | apply Kd.R_drewN | apply Kd.R_drew)); exact HO_16.out⟩, ⟨by repeat (first | exact HB.out | apply below_alloc | apply pw_below_drewN | apply below_drew1)⟩⟩
                                     · rw [if_neg c73] at H
                                       exact absurd H (by simp)
                                   · rw [if_neg c72] at H
                                     exact absurd H (by simp)
                                 · rw [if_neg c71] at H
                                   have c71b0 : decide (x17_7 < (l0.length : Int)) = false := decide_eq_false c71
                                   clear c71
                                   simp only [Option.some.injEq, Prod.mk.injEq] at H
                                   obtain ⟨rfl, rfl⟩ := H
                                   go_wp2
                                   go_ret2
                                   exact ⟨by first | rfl | (simp [errW_none, errW_some] <;> rfl) | (simp [*, errW_none, errW_some] <;> rfl), by repeat (first | exact HB.out | apply below_alloc | apply pw_below_drewN | apply below_drew1)⟩
                   · rw [if_neg c29] at H
                     exact absurd H (by simp)
                 · rw [if_neg c28] at H
                   exact absurd H (by simp)
           · rw [if_neg c12] at H
             exact absurd H (by simp)
         · rw [if_neg c11] at H
           exact absurd H (by simp)
end Go.Proofs.Ytjhpkikgajgdmaa.K
