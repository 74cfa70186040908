-- PRINTED by print.py (a twelfth state) out of the translation. Not trusted: Lean checks it.
import Derived.Test.YtdmnaehgngpikaaTrX
import Derived.Test.YtdmnaehgngpikaaK0
import Derived.Test.YtdmnaehgngpikaaK11
import Derived.Test.YtdmnaehgngpikaaK12
import Derived.Test.YtdmnaehgngpikaaK14
namespace Go.Proofs.Ytdmnaehgngpikaa.K
open Go.RowKit Go.Proofs.YtdmnaehgngpikaaW.PrintWords Go.Proofs.YtdmnaehgngpikaaW.PrintLast Go.Proofs.YtdmnaehgngpikaaW.PrintMore
attribute [local go_sem] max2_int min2_int max_two min_two max_three min_three max_four min_four   -- for this text's walks alone
set_option linter.unusedVariables false
set_option linter.unusedSimpArgs false
/-! ### purflingref04_Check: function 26 -/
mutual
def purflingref04_Check.j0 : Nat → List (S48) → Bool → Option (Int × Int)
 | 0, _, _ => none
 | k + 1, x0, x25 => if x25 = true then (some (0, 43)) else (purflingref04_Check.l0 k x0 0)
def purflingref04_Check.l0 : Nat → List (S48) → Int → Option (Int × Int)
 | 0, _, _ => none
 | k + 1, x0, x4 => if x4 < (x0.length : Int) then (if 0 ≤ x4 then ((purflingref04_right.f ((rd_T48 x0 x4).f0) ((rd_T48 x0 x4).f1) ((rd_T48 x0 x4).f2.f0.f0) ((rd_T48 x0 x4).f2.f0.f1) ((rd_T48 x0 x4).f2.f1.f0) ((rd_T48 x0 x4).f2.f1.f1) ((rd_T48 x0 x4).f2.f2.f0) ((rd_T48 x0 x4).f2.f2.f1) ((rd_T48 x0 x4).f2.f2.f2) ((rd_T48 x0 x4).f2.f2.f3) ((rd_T48 x0 x4).f2.f3.f0.f0) ((rd_T48 x0 x4).f2.f3.f0.f1) ((rd_T48 x0 x4).f2.f3.f0.f2) ((rd_T48 x0 x4).f2.f3.f1.f0) ((rd_T48 x0 x4).f2.f3.f1.f1) ((rd_T48 x0 x4).f2.f3.f1.f2) ((rd_T48 x0 x4).f2.f3.f2.f0) ((rd_T48 x0 x4).f2.f3.f2.f1) ((rd_T48 x0 x4).f2.f3.f2.f2) ((rd_T48 x0 x4).f2.f3.f3.f0) ((rd_T48 x0 x4).f2.f3.f3.f1) ((rd_T48 x0 x4).f2.f3.f3.f2) ((rd_T48 x0 x4).f2.f4) ((rd_T48 x0 x4).f2.f5) ((rd_T48 x0 x4).f2.f6) ((rd_T48 x0 x4).f2.f7) ((rd_T48 x0 x4).f2.f8) ((rd_T48 x0 x4).f2.f9.f0) ((rd_T48 x0 x4).f2.f9.f1) ((rd_T48 x0 x4).f2.f10) ((rd_T48 x0 x4).f2.f11) ((rd_T48 x0 x4).f3) ((rd_T48 x0 x4).f4) ((rd_T48 x0 x4).f5)).bind fun t269 => (if t269 = true then (purflingref04_Check.l0 k x0 (wrap64 (x4 + 1))) else (some (x4, 50)))) else (none)) else (if 0 ≤ (x0.length : Int) then (if ((x0.length : Int) : Int).toNat ≤ 35184372088832 then (purflingref04_Check.l1 k x0 (List.replicate ((x0.length : Int) : Int).toNat 0) 0) else (none)) else (none))
def purflingref04_Check.l1 : Nat → List (S48) → List Int → Int → Option (Int × Int)
 | 0, _, _, _ => none
 | k + 1, x0, x6, x7 => if x7 < (x0.length : Int) then (purflingref04_Check.l2 k x0 x6 x7 0) else (if 0 ≤ (x0.length : Int) then (if ((x0.length : Int) : Int).toNat ≤ 281474976710656 then (purflingref04_Check.l3 k x0 x6 (List.replicate ((x0.length : Int) : Int).toNat false) false 1) else (none)) else (none))
def purflingref04_Check.l2 : Nat → List (S48) → List Int → Int → Int → Option (Int × Int)
 | 0, _, _, _, _ => none
 | k + 1, x0, x6, x7, x8 => if 0 ≤ x7 then (if x7 < (x0.length : Int) then (if x8 < (((rd_T48 x0 x7).f1).length : Int) then (if 0 ≤ x8 then (if (rd ((rd_T48 x0 x7).f1) x8) < 1 then (some (x7, 40)) else (if (rd ((rd_T48 x0 x7).f1) x8) ≥ (x0.length : Int) then (some (x7, 40)) else (if 0 ≤ (rd ((rd_T48 x0 x7).f1) x8) then (if (rd ((rd_T48 x0 x7).f1) x8) < (x6.length : Int) then (purflingref04_Check.l2 k x0 (x6.set ((rd ((rd_T48 x0 x7).f1) x8) : Int).toNat (wrap64 ((rd x6 (rd ((rd_T48 x0 x7).f1) x8)) + 1))) x7 (wrap64 (x8 + 1))) else (none)) else (none)))) else (none)) else (purflingref04_Check.l1 k x0 x6 (wrap64 (x7 + 1)))) else (none)) else (none)
def purflingref04_Check.l3 : Nat → List (S48) → List Int → List Bool → Bool → Int → Option (Int × Int)
 | 0, _, _, _, _, _ => none
 | k + 1, x0, x6, x10, x11, x12 => if x12 < (x0.length : Int) then (if x11 = true then (purflingref04_Check.l3 k x0 x6 x10 true (wrap64 (x12 + 1))) else (if 0 ≤ x12 then (if x12 < (x6.length : Int) then (purflingref04_Check.l3 k x0 x6 x10 ((rd x6 x12) != 1) (wrap64 (x12 + 1))) else (none)) else (none))) else (if x11 = true then (purflingref04_Check.j6 k x0 x6 x10 x11) else ((purflingref04_order.f k x0 0 ([] : List Int)).bind fun t282 => (purflingref04_Check.l4 k x0 x6 x10 x11 t282 0)))
def purflingref04_Check.j6 : Nat → List (S48) → List Int → List Bool → Bool → Option (Int × Int)
 | 0, _, _, _, _ => none
 | k + 1, x0, x6, x10, x11 => purflingref04_Check.l5 k x0 x6 x10 x11 1
def purflingref04_Check.l5 : Nat → List (S48) → List Int → List Bool → Bool → Int → Option (Int × Int)
 | 0, _, _, _, _, _ => none
 | k + 1, x0, x6, x10, x11, x15 => if x15 < (x0.length : Int) then (if 0 ≤ x15 then (if x15 < (x6.length : Int) then (if (rd x6 x15) = 1 then (if x11 = true then ((purflingref04_reached.f k x0 x15).bind fun t288 => (if t288 = true then (purflingref04_Check.l5 k x0 x6 x10 x11 (wrap64 (x15 + 1))) else (some (x15, 41)))) else (if x15 < (x10.length : Int) then (if rdOf false x10 x15 = true then (purflingref04_Check.l5 k x0 x6 x10 x11 (wrap64 (x15 + 1))) else (some (x15, 41))) else (none))) else (some (x15, 41))) else (none)) else (none)) else ((purflingref04_depths.f k x0).bind fun t290 => (purflingref04_Check.l6 k x0 t290 0))
def purflingref04_Check.l6 : Nat → List (S48) → List Int → Int → Option (Int × Int)
 | 0, _, _, _ => none
 | k + 1, x0, x16, x17 => if x17 < (x0.length : Int) then (if 0 ≤ x17 then (if x17 < (x16.length : Int) then (if (rd x16 x17) > 64 then (some (x17, 42)) else (purflingref04_Check.l6 k x0 x16 (wrap64 (x17 + 1)))) else (none)) else (none)) else (some (0, 0))
def purflingref04_Check.l4 : Nat → List (S48) → List Int → List Bool → Bool → List Int → Int → Option (Int × Int)
 | 0, _, _, _, _, _, _ => none
 | k + 1, x0, x6, x10, x11, x13, x14 => if x14 < (x13.length : Int) then (if 0 ≤ x14 then (if 0 ≤ (rd x13 x14) then (if (rd x13 x14) < (x10.length : Int) then (purflingref04_Check.l4 k x0 x6 (x10.set ((rd x13 x14) : Int).toNat true) x11 x13 (wrap64 (x14 + 1))) else (none)) else (none)) else (none)) else (purflingref04_Check.j6 k x0 x6 x10 x11)
end
def purflingref04_Check.f (k : Nat) (l0 : List (S48)) : Option (Int × Int) := if (l0.length : Int) < 1 then (purflingref04_Check.j0 k l0 true) else (purflingref04_Check.j0 k l0 (decide ((l0.length : Int) > 65536)))
set_option maxHeartbeats 8000000 in
set_option maxRecDepth 100000 in
theorem purflingref04_Check.calls (k : Nat) (A0 : Option Addr) (c0 : Nat) (l0 : List (S48)) (r1 : Int) (r2 : Int) (w : World) (hr0 : Kd.C k48 w A0 l0.length l0) (hc0 : l0.length ≤ c0) (h : purflingref04_Check.f k l0 = some (r1, r2)) :
 Calls Try.prog 26 #[.slice A0 l0.length c0] w fun e w' => e = .returned (.tuple #[.int .i64 r1, .int .i64 r2]) ∧ Below w.heap.size w w' := by
 have hu48 := Try.underlying48
 have HR0 := Aside0.mk hr0
 have HC0 := Aside0.mk hc0
 clear hr0 hc0
 have HB := Aside0.mk (Below.refl w.heap.size w)
 have H : (if (l0.length : Int) < 1 then (purflingref04_Check.j0 k l0 true) else (purflingref04_Check.j0 k l0 (decide ((l0.length : Int) > 65536)))) = some (r1, r2) := h
 clear h
 have HC2 := Aside0.mk H
 clear H
 go_enter Try.func26, Try.ntmps26
 go_upto_region 1 with (fail)
 go_cut [25] (fun v25 wc => ∃ (kq : Nat) (x25_1 : Bool), v25 = .bool x25_1 ∧ Aside0 (purflingref04_Check.j0 kq l0 x25_1 = some (r1, r2)) ∧ Aside0 (kq ≤ k) ∧ Aside0 (Below w.heap.size w wc))
 case first =>
  have H := HC2.out
  clear HC2
  by_cases c3 : (l0.length : Int) < 1
  · rw [if_pos c3] at H
    have c3b0 : decide ((l0.length : Int) < 1) = true := decide_eq_true c3
    have c3b1 : decide (l0.length < 1) = true := decide_eq_true (by omega)
    clear c3
    (first | rw [c3b0] | (simp only [i64_w, i32_w]; rw [c3b0]) | skip)
    have H' := Aside0.mk H
    clear H
    go_wp2
    go_meet
    case rel => exact ⟨_, (true), (by first | rfl | (simp; done) | (simp [*]; done)), H', ⟨by first | omega | exact Nat.le_refl _⟩, ⟨by repeat (first | exact HB.out | apply below_alloc | apply pw_below_drewN | apply below_drew1)⟩⟩
  · rw [if_neg c3] at H
    have c3b0 : decide ((l0.length : Int) < 1) = false := decide_eq_false c3
    have c3b1 : decide (l0.length < 1) = false := decide_eq_false (by omega)
    clear c3
    (first | rw [c3b0] | (simp only [i64_w, i32_w]; rw [c3b0]) | skip)
    have H' := Aside0.mk H
    clear H
    go_wp2
    go_meet
    case rel => exact ⟨_, (decide ((l0.length : Int) > 65536)), (by first | rfl | (simp; done) | (simp [*]; done)), H', ⟨by first | omega | exact Nat.le_refl _⟩, ⟨by repeat (first | exact HB.out | apply below_alloc | apply pw_below_drewN | apply below_drew1)⟩⟩
 case rest =>
  clear HC2
  try clear c2
  try clear p2
  try clear c3
  try clear c3b0
  try clear c3b1
  obtain ⟨kq, x25_1, rfl, HA, HJ1, HB⟩ := hcut
  cases kq with
  | zero => exact absurd HA.out (by simp [purflingref04_Check.j0])
  | succ kj1 =>
   have H := HA.out
   clear HA
   simp only [purflingref04_Check.j0] at H
   by_cases c4 : x25_1 = true
   · subst c4
     have H1 : (some (0, 43)) = some (r1, r2) := by rw [if_pos rfl] at H; exact H
     clear H
     have H := H1
     clear H1
     simp only [Option.some.injEq, Prod.mk.injEq] at H
     obtain ⟨rfl, rfl⟩ := H
     go_wp2
     go_ret2
     exact ⟨by first | rfl | (simp [errW_none, errW_some] <;> rfl) | (simp [*, errW_none, errW_some] <;> rfl), by repeat (first | exact HB.out | apply below_alloc | apply pw_below_drewN | apply below_drew1)⟩
   · replace c4 := Bool.eq_false_iff.mpr c4
     subst c4
     have H1 : (purflingref04_Check.l0 kj1 l0 0) = some (r1, r2) := by rw [if_neg (show ¬ (false = true) by decide)] at H; exact H
     clear H
     have H := H1
     clear H1
     have H' := Aside0.mk H
     clear H
     go_wp2
     go_loopg [4] kj1 (fun kq v4 w' => ∃ (x4_2 : Int), v4 = .int .i64 x4_2 ∧ Aside0 (purflingref04_Check.l0 kq l0 x4_2 = some (r1, r2)) ∧ Aside0 (kq ≤ kj1) ∧ Aside0 (Below w.heap.size w w'))
     case atStart => exact ⟨(0), (by first | rfl | (simp; done) | (simp [*]; done)), H', ⟨Nat.le_refl _⟩, ⟨by repeat (first | exact HB.out | apply below_alloc | apply pw_below_drewN | apply below_drew1)⟩⟩
     case round =>
      clear H'
      try clear c2
      try clear p2
      try clear c3
      try clear c3b0
      try clear c3b1
      try clear c4
      try clear p2
      obtain ⟨x4_2, rfl, HA, HK2, HB⟩ := hrel
      cases gk with
      | zero => exact absurd HA.out (by simp [purflingref04_Check.l0])
      | succ k2 =>
       have H := HA.out
       clear HA
       simp only [purflingref04_Check.l0] at H
       by_cases c5 : x4_2 < (l0.length : Int)
       · rw [if_pos c5] at H
         have c5b0 : decide (x4_2 < (l0.length : Int)) = true := decide_eq_true c5
         clear c5
         by_cases c6 : 0 ≤ x4_2
         · rw [if_pos c6] at H
           have c6b0 : decide (0 ≤ x4_2) = true := decide_eq_true c6
           clear c6
           replace H := Option.bind_eq_some_iff.mp H
           obtain ⟨t269, A70, H⟩ := H
           replace H : (if t269 = true then (purflingref04_Check.l0 k2 l0 (wrap64 (x4_2 + 1))) else (some (x4_2, 50))) = some (r1, r2) := H
           have A7 := Aside0.mk A70
           clear A70
           by_cases c8 : t269 = true
           · subst c8
             have H1 : (purflingref04_Check.l0 k2 l0 (wrap64 (x4_2 + 1))) = some (r1, r2) := by rw [if_pos rfl] at H; exact H
             clear H
             have H := H1
             clear H1
             have H' := Aside0.mk H
             clear H
             have p268 : 0 ≤ (x4_2 : Int) := of_decide_eq_true (by first | (with_reducible assumption) | assumption)
             have q268 : x4_2 < (l0.length : Int) := of_decide_eq_true (by first | (with_reducible assumption) | assumption)
             obtain ⟨ad268, csN, A1N, c1N, A3N, c3N, e167, hinfoN, hldN, hncN⟩ := node_at HR0.out HB.out x4_2 p268 q268
             subst e167
             have HNC := Aside0.mk hncN
             have hrN : rightN (rd_T48 l0 (x4_2)) = true := Option.some.inj A7.out
             have HRN := Aside0.mk hrN
             clear hncN hrN
             replace p268 := eq_true p268
             replace q268 := eq_true q268
             go_wp2_with (first | (refine wpList_load_any rfl 48 _ rfl _ rfl csN _ hldN Try.underlying48 rfl hinfoN ?_) | (go_at_call 39; refine (rright_any _ csN A1N c1N A3N c3N _ HNC.out true HRN.out).mono ?_; rintro e w9 ⟨rfl, hb⟩; have n0_ := Aside0.mk (below_step (by repeat (first | exact HB.out | apply below_alloc | apply pw_below_drewN | apply below_drew1)) hb); clear HB; have HB := n0_; clear n0_; (try clear hb); (try clear hb2); (try clear hk); (try clear hi)))
             go_roundg k2
             case measure => have := HJ1.out; have := HK2.out; omega
             case rel => exact ⟨(wrap64 (x4_2 + 1)), (by first | rfl | (simp; done) | (simp [*]; done)), H', ⟨by have := HJ1.out; have := HK2.out; omega⟩, ⟨by repeat (first | exact HB.out | apply below_alloc | apply pw_below_drewN | apply below_drew1)⟩⟩
           · replace c8 := Bool.eq_false_iff.mpr c8
             subst c8
             have H1 : (some (x4_2, 50)) = some (r1, r2) := by rw [if_neg (show ¬ (false = true) by decide)] at H; exact H
             clear H
             have H := H1
             clear H1
             simp only [Option.some.injEq, Prod.mk.injEq] at H
             obtain ⟨rfl, rfl⟩ := H
             have p268 : 0 ≤ (x4_2 : Int) := of_decide_eq_true (by first | (with_reducible assumption) | assumption)
             have q268 : x4_2 < (l0.length : Int) := of_decide_eq_true (by first | (with_reducible assumption) | assumption)
             obtain ⟨ad268, csN, A1N, c1N, A3N, c3N, e167, hinfoN, hldN, hncN⟩ := node_at HR0.out HB.out x4_2 p268 q268
             subst e167
             have HNC := Aside0.mk hncN
             have hrN : rightN (rd_T48 l0 (x4_2)) = false := Option.some.inj A7.out
             have HRN := Aside0.mk hrN
             clear hncN hrN
             replace p268 := eq_true p268
             replace q268 := eq_true q268
             go_wp2_with (first | (refine wpList_load_any rfl 48 _ rfl _ rfl csN _ hldN Try.underlying48 rfl hinfoN ?_) | (go_at_call 39; refine (rright_any _ csN A1N c1N A3N c3N _ HNC.out false HRN.out).mono ?_; rintro e w10 ⟨rfl, hb⟩; have n0_ := Aside0.mk (below_step (by repeat (first | exact HB.out | apply below_alloc | apply pw_below_drewN | apply below_drew1)) hb); clear HB; have HB := n0_; clear n0_; (try clear hb); (try clear hb2); (try clear hk); (try clear hi)))
             go_ret2
             exact ⟨by first | rfl | (simp [errW_none, errW_some] <;> rfl) | (simp [*, errW_none, errW_some] <;> rfl), by repeat (first | exact HB.out | apply below_alloc | apply pw_below_drewN | apply below_drew1)⟩
         · rw [if_neg c6] at H
           exact absurd H (by simp)
       · rw [if_neg c5] at H
         have c5b0 : decide (x4_2 < (l0.length : Int)) = false := decide_eq_false c5
         clear c5
         by_cases c11 : 0 ≤ (l0.length : Int)
         · rw [if_pos c11] at H
           have c11b0 := eq_true c11
           have c11b1 : decide (0 ≤ (l0.length : Int)) = true := decide_eq_true c11
           clear c11
           by_cases c12 : ((l0.length : Int) : Int).toNat ≤ 35184372088832
           · rw [if_pos c12] at H
             have c12b0 := eq_true c12
             have c12b1 : decide (((l0.length : Int) : Int).toNat ≤ 35184372088832) = true := decide_eq_true c12
             clear c12
             obtain ⟨y270, hy270⟩ : ∃ y_ : List Int, y_ = (List.replicate ((l0.length : Int) : Int).toNat 0) := ⟨_, rfl⟩
             replace H : (purflingref04_Check.l1 k2 l0 y270 0) = some (r1, r2) := by first | (rw [hy270]; with_reducible exact H) | (have H2_ := (Option.bind_some _ _).symm.trans H; rw [hy270]; with_reducible exact H2_) | (have H2_ := (Option.bind_some _ _).symm.trans H; with_reducible exact H2_) | with_reducible exact H | (rw [hy270]; exact H) | exact H
             have Ny270 := Aside0.mk hy270
             clear hy270
             have H' := Aside0.mk H
             clear H
             go_wp2_with (first | ((with_reducible refine gate_dst (N := 42) rfl ?_); (try (refine gate_guard (by rfl) ?_; dsimp only)); refine Kd.R_make (Kd.int .i64) _ 3 rfl (N := 42) rfl 33 _ _ rfl (l0.length : Int) rfl rfl Try.underlying33 (.int .i64 0) 8 info3 rfl (by decide) (by omega) 0 (ok := fun _ => True) (okp := fun _ => True) rfl (fun _ hk => hk) trivial (of_decide_eq_true (by first | (with_reducible assumption) | assumption)) (Nat.le_trans (Nat.mul_le_mul_right _ (of_decide_eq_true (by first | (with_reducible assumption) | assumption) : (l0.length : Int).toNat ≤ 35184372088832)) (by omega)) (Below.refl _ _) (Nat.le_refl _) ?_; intro v271 w13 ho14 hb hg_ hnew_; clear hg_ hnew_; (first | rw [← Ny270.out] at ho14 | (simp only [Int.reduceToNat] at ho14; rw [← Ny270.out] at ho14)); have n0_ := Aside0.mk (Kd.R_lower ho14 (below_size (by repeat (first | exact HB.out | apply below_alloc | apply pw_below_drewN | apply below_drew1)))); have n1_ := Aside0.mk (below_step (by repeat (first | exact HB.out | apply below_alloc | apply pw_below_drewN | apply below_drew1)) hb); clear HB; have HO272 := n0_; have HB := n1_; clear n0_ n1_; clear hb ho14))
             go_loopg [7] k2 (fun kq v7 w' => ∃ (x6_3 : List Int) (x7_3 : Int), v7 = .int .i64 x7_3 ∧ Aside0 (purflingref04_Check.l1 kq l0 x6_3 x7_3 = some (r1, r2)) ∧ Aside0 (kq ≤ k2) ∧ Aside0 (Kd.R (Kd.int .i64) 3 w' w.heap.size (fun _ => True) v271 x6_3) ∧ Aside0 (Below w.heap.size w w'))
             case atStart => exact ⟨(y270), (0), (by first | rfl | (simp; done) | (simp [*]; done)), H', ⟨Nat.le_refl _⟩, ⟨by (with_reducible repeat (first | apply Kd.R_alloc | apply Kd.R_drewN | apply Kd.R_drew)); exact HO272.out⟩, ⟨by repeat (first | exact HB.out | apply below_alloc | apply pw_below_drewN | apply below_drew1)⟩⟩
             case round =>
              clear H'
              try clear c1
              try clear c2
              try clear p2
              try clear q2
              try clear hx2
              try clear c3
              try clear c3b0
              try clear c3b1
              try clear c4
              try clear c5
              try clear c5b0
              try clear c6
              try clear c6b0
              try clear p6
              try clear c8
              try clear c11
              try clear c11b0
              try clear c11b1
              try clear c12
              try clear c12b0
              try clear c12b1
              try clear hx268_0
              try clear hx268_1
              try clear hx268_10
              try clear hx268_11
              try clear hx268_12
              try clear hx268_13
              try clear hx268_14
              try clear hx268_15
              try clear hx268_16
              try clear hx268_17
              try clear hx268_18
              try clear hx268_19
              try clear hx268_2
              try clear hx268_20
              try clear hx268_21
              try clear hx268_22
              try clear hx268_23
              try clear hx268_24
              try clear hx268_25
              try clear hx268_26
              try clear hx268_27
              try clear hx268_28
              try clear hx268_29
              try clear hx268_3
              try clear hx268_30
              try clear hx268_31
              try clear hx268_32
              try clear hx268_33
              try clear hx268_4
              try clear hx268_5
              try clear hx268_6
              try clear hx268_7
              try clear hx268_8
              try clear hx268_9
              try clear p2
              try clear p268
              try clear q268
              obtain ⟨x6_3, x7_3, rfl, HA, HK3, HO_6, HB⟩ := hrel
              cases gk with
              | zero => exact absurd HA.out (by simp [purflingref04_Check.l1])
              | succ k3 =>
               have H := HA.out
               clear HA
               simp only [purflingref04_Check.l1] at H
               by_cases c15 : x7_3 < (l0.length : Int)
               · rw [if_pos c15] at H
                 have c15b0 : decide (x7_3 < (l0.length : Int)) = true := decide_eq_true c15
                 clear c15
                 have H' := Aside0.mk H
                 clear H
                 go_wp2
                 go_loopg [8] k3 (fun kq v8 w' => ∃ (x6_4 : List Int) (x8_4 : Int), v8 = .int .i64 x8_4 ∧ Aside0 (purflingref04_Check.l2 kq l0 x6_4 x7_3 x8_4 = some (r1, r2)) ∧ Aside0 (kq ≤ k3) ∧ Aside0 (Kd.R (Kd.int .i64) 3 w' w.heap.size (fun _ => True) v271 x6_4) ∧ Aside0 (Below w.heap.size w w'))
                 case atStart => exact ⟨(x6_3), (0), (by first | rfl | (simp; done) | (simp [*]; done)), H', ⟨Nat.le_refl _⟩, ⟨by (with_reducible repeat (first | apply Kd.R_alloc | apply Kd.R_drewN | apply Kd.R_drew)); exact HO_6.out⟩, ⟨by repeat (first | exact HB.out | apply below_alloc | apply pw_below_drewN | apply below_drew1)⟩⟩
                 case round =>
                  clear H'
                  try clear c1
                  try clear c2
                  try clear p2
                  try clear q2
                  try clear hx2
                  try clear c3
                  try clear c3b0
                  try clear c3b1
                  try clear c4
                  try clear c5
                  try clear c5b0
                  try clear c6
                  try clear c6b0
                  try clear p6
                  try clear c8
                  try clear c11
                  try clear c11b0
                  try clear c11b1
                  try clear c12
                  try clear c12b0
                  try clear c12b1
                  try clear c15
                  try clear c15b0
                  try clear hx268_0
                  try clear hx268_1
                  try clear hx268_10
                  try clear hx268_11
                  try clear hx268_12
                  try clear hx268_13
                  try clear hx268_14
                  try clear hx268_15
                  try clear hx268_16
                  try clear hx268_17
                  try clear hx268_18
                  try clear hx268_19
                  try clear hx268_2
                  try clear hx268_20
                  try clear hx268_21
                  try clear hx268_22
                  try clear hx268_23
                  try clear hx268_24
                  try clear hx268_25
                  try clear hx268_26
                  try clear hx268_27
                  try clear hx268_28
                  try clear hx268_29
                  try clear hx268_3
                  try clear hx268_30
                  try clear hx268_31
                  try clear hx268_32
                  try clear hx268_33
                  try clear hx268_4
                  try clear hx268_5
                  try clear hx268_6
                  try clear hx268_7
                  try clear hx268_8
                  try clear hx268_9
                  try clear p2
                  try clear p268
                  try clear p6
                  try clear q2
                  try clear q268
                  obtain ⟨x6_4, x8_4, rfl, HA, HK4, HO_6, HB⟩ := hrel
                  cases gk with
                  | zero => exact absurd HA.out (by simp [purflingref04_Check.l2])
                  | succ k4 =>
                   have H := HA.out
                   clear HA
                   simp only [purflingref04_Check.l2] at H
                   by_cases c16 : 0 ≤ x7_3
                   · rw [if_pos c16] at H
                     have c16b0 : decide (0 ≤ x7_3) = true := decide_eq_true c16
                     clear c16
                     by_cases c17 : x7_3 < (l0.length : Int)
                     · rw [if_pos c17] at H
                       have c17b0 : decide (x7_3 < (l0.length : Int)) = true := decide_eq_true c17
                       clear c17
                       by_cases c18 : x8_4 < (((rd_T48 l0 x7_3).f1).length : Int)
                       · rw [if_pos c18] at H
                         have c18b0 : decide (x8_4 < (((rd_T48 l0 x7_3).f1).length : Int)) = true := decide_eq_true c18
                         clear c18
                         by_cases c19 : 0 ≤ x8_4
                         · rw [if_pos c19] at H
                           have c19b0 : decide (0 ≤ x8_4) = true := decide_eq_true c19
                           clear c19
                           by_cases c20 : (rd ((rd_T48 l0 x7_3).f1) x8_4) < 1
                           · rw [if_pos c20] at H
                             have c20b0 : decide ((rd ((rd_T48 l0 x7_3).f1) x8_4) < 1) = true := decide_eq_true c20
                             clear c20
                             simp only [Option.some.injEq, Prod.mk.injEq] at H
                             obtain ⟨rfl, rfl⟩ := H
                             have p273 : 0 ≤ (x7_3 : Int) := of_decide_eq_true (by first | (with_reducible assumption) | assumption)
                             have q273 : x7_3 < (l0.length : Int) := of_decide_eq_true (by first | (with_reducible assumption) | assumption)
                             obtain ⟨ad273, A273_1, c273_1, A273_31, c273_31, e273, hx273_0, hx273_1, -, -, -, -, -, -, -, -, -, -, -, -, -, -, -, -, -, -, -, -, hx273_22, -, -, -, -, -, -, -, -, hx273_31, -, -, hl273_1, hi273_1, hl273_31, hi273_31⟩ := at_T48 HR0.out x7_3 p273 q273
                             cases e273
                             replace hx273_0 := (HB.out.cell (World.block_lt_of_cell? w _ hx273_0)).trans hx273_0
                             replace hx273_1 := (HB.out.cell (World.block_lt_of_cell? w _ hx273_1)).trans hx273_1
                             replace hx273_22 := (HB.out.cell (World.block_lt_of_cell? w _ hx273_22)).trans hx273_22
                             replace hx273_31 := (HB.out.cell (World.block_lt_of_cell? w _ hx273_31)).trans hx273_31
                             have HR273_1 := Aside0.mk hi273_1
                             have HC273_1 := Aside0.mk hl273_1
                             clear hi273_1 hl273_1
                             have HR273_31 := Aside0.mk hi273_31
                             have HC273_31 := Aside0.mk hl273_31
                             clear hi273_31 hl273_31
                             replace p273 := eq_true p273
                             replace q273 := eq_true q273
                             have p274 : 0 ≤ (x7_3 : Int) := of_decide_eq_true (by first | (with_reducible assumption) | assumption)
                             have q274 : x7_3 < (l0.length : Int) := of_decide_eq_true (by first | (with_reducible assumption) | assumption)
                             obtain ⟨ad274, A274_1, c274_1, A274_31, c274_31, e274, hx274_0, hx274_1, -, -, -, -, -, -, -, -, -, -, -, -, -, -, -, -, -, -, -, -, hx274_22, -, -, -, -, -, -, -, -, hx274_31, -, -, hl274_1, hi274_1, hl274_31, hi274_31⟩ := at_T48 HR0.out x7_3 p274 q274
                             obtain rfl : ad273 = ad274 := (by injection e274)
                             replace hx274_0 := (HB.out.cell (World.block_lt_of_cell? w _ hx274_0)).trans hx274_0
                             replace hx274_1 := (HB.out.cell (World.block_lt_of_cell? w _ hx274_1)).trans hx274_1
                             replace hx274_22 := (HB.out.cell (World.block_lt_of_cell? w _ hx274_22)).trans hx274_22
                             replace hx274_31 := (HB.out.cell (World.block_lt_of_cell? w _ hx274_31)).trans hx274_31
                             have HR274_1 := Aside0.mk hi274_1
                             have HC274_1 := Aside0.mk hl274_1
                             clear hi274_1 hl274_1
                             have HR274_31 := Aside0.mk hi274_31
                             have HC274_31 := Aside0.mk hl274_31
                             clear hi274_31 hl274_31
                             replace p274 := eq_true p274
                             replace q274 := eq_true q274
                             have ea_ := Option.some.inj (hx273_1.symm.trans hx274_1)
                             injection ea_ with ea_ en_ ec_
                             subst ea_
                             subst ec_
                             clear en_
                             have ea_ := Option.some.inj (hx273_31.symm.trans hx274_31)
                             injection ea_ with ea_ en_ ec_
                             subst ea_
                             subst ec_
                             clear en_
                             have p275 : 0 ≤ (x8_4 : Int) := of_decide_eq_true (by first | (with_reducible assumption) | assumption)
                             have q275 : x8_4 < (((rd_T48 l0 x7_3).f1).length : Int) := of_decide_eq_true (by first | (with_reducible assumption) | assumption)
                             obtain ⟨ad275, e275, hx275_0⟩ := Kd.at_int HR274_1.out x8_4 p275 q275
                             cases e275
                             replace hx275_0 := (HB.out.cell (World.block_lt_of_cell? w _ hx275_0)).trans hx275_0
                             replace p275 := eq_true p275
                             replace q275 := eq_true q275
                             go_wp2
                             go_ret2
                             exact ⟨by first | rfl | (simp [errW_none, errW_some] <;> rfl) | (simp [*, errW_none, errW_some] <;> rfl), by repeat (first | exact HB.out | apply below_alloc | apply pw_below_drewN | apply below_drew1)⟩
                           · rw [if_neg c20] at H
                             have c20b0 : decide ((rd ((rd_T48 l0 x7_3).f1) x8_4) < 1) = false := decide_eq_false c20
                             clear c20
                             by_cases c21 : (rd ((rd_T48 l0 x7_3).f1) x8_4) ≥ (l0.length : Int)
                             · rw [if_pos c21] at H
                               have c21b0 : decide ((l0.length : Int) ≤ (rd ((rd_T48 l0 x7_3).f1) x8_4)) = true := decide_eq_true c21
                               clear c21
                               simp only [Option.some.injEq, Prod.mk.injEq] at H
                               obtain ⟨rfl, rfl⟩ := H
                               have p273 : 0 ≤ (x7_3 : Int) := of_decide_eq_true (by first | (with_reducible assumption) | assumption)
                               have q273 : x7_3 < (l0.length : Int) := of_decide_eq_true (by first | (with_reducible assumption) | assumption)
                               obtain ⟨ad273, A273_1, c273_1, A273_31, c273_31, e273, hx273_0, hx273_1, -, -, -, -, -, -, -, -, -, -, -, -, -, -, -, -, -, -, -, -, hx273_22, -, -, -, -, -, -, -, -, hx273_31, -, -, hl273_1, hi273_1, hl273_31, hi273_31⟩ := at_T48 HR0.out x7_3 p273 q273
                               cases e273
                               replace hx273_0 := (HB.out.cell (World.block_lt_of_cell? w _ hx273_0)).trans hx273_0
                               replace hx273_1 := (HB.out.cell (World.block_lt_of_cell? w _ hx273_1)).trans hx273_1
                               replace hx273_22 := (HB.out.cell (World.block_lt_of_cell? w _ hx273_22)).trans hx273_22
                               replace hx273_31 := (HB.out.cell (World.block_lt_of_cell? w _ hx273_31)).trans hx273_31
                               have HR273_1 := Aside0.mk hi273_1
                               have HC273_1 := Aside0.mk hl273_1
                               clear hi273_1 hl273_1
                               have HR273_31 := Aside0.mk hi273_31
                               have HC273_31 := Aside0.mk hl273_31
                               clear hi273_31 hl273_31
                               replace p273 := eq_true p273
                               replace q273 := eq_true q273
                               have p274 : 0 ≤ (x7_3 : Int) := of_decide_eq_true (by first | (with_reducible assumption) | assumption)
                               have q274 : x7_3 < (l0.length : Int) := of_decide_eq_true (by first | (with_reducible assumption) | assumption)
                               obtain ⟨ad274, A274_1, c274_1, A274_31, c274_31, e274, hx274_0, hx274_1, -, -, -, -, -, -, -, -, -, -, -, -, -, -, -, -, -, -, -, -, hx274_22, -, -, -, -, -, -, -, -, hx274_31, -, -, hl274_1, hi274_1, hl274_31, hi274_31⟩ := at_T48 HR0.out x7_3 p274 q274
                               obtain rfl : ad273 = ad274 := (by injection e274)
                               replace hx274_0 := (HB.out.cell (World.block_lt_of_cell? w _ hx274_0)).trans hx274_0
                               replace hx274_1 := (HB.out.cell (World.block_lt_of_cell? w _ hx274_1)).trans hx274_1
                               replace hx274_22 := (HB.out.cell (World.block_lt_of_cell? w _ hx274_22)).trans hx274_22
                               replace hx274_31 := (HB.out.cell (World.block_lt_of_cell? w _ hx274_31)).trans hx274_31
                               have HR274_1 := Aside0.mk hi274_1
                               have HC274_1 := Aside0.mk hl274_1
                               clear hi274_1 hl274_1
                               have HR274_31 := Aside0.mk hi274_31
                               have HC274_31 := Aside0.mk hl274_31
                               clear hi274_31 hl274_31
                               replace p274 := eq_true p274
                               replace q274 := eq_true q274
                               have ea_ := Option.some.inj (hx273_1.symm.trans hx274_1)
                               injection ea_ with ea_ en_ ec_
                               subst ea_
                               subst ec_
                               clear en_
                               have ea_ := Option.some.inj (hx273_31.symm.trans hx274_31)
                               injection ea_ with ea_ en_ ec_
                               subst ea_
                               subst ec_
                               clear en_
                               have p275 : 0 ≤ (x8_4 : Int) := of_decide_eq_true (by first | (with_reducible assumption) | assumption)
                               have q275 : x8_4 < (((rd_T48 l0 x7_3).f1).length : Int) := of_decide_eq_true (by first | (with_reducible assumption) | assumption)
                               obtain ⟨ad275, e275, hx275_0⟩ := Kd.at_int HR274_1.out x8_4 p275 q275
                               cases e275
                               replace hx275_0 := (HB.out.cell (World.block_lt_of_cell? w _ hx275_0)).trans hx275_0
                               replace p275 := eq_true p275
                               replace q275 := eq_true q275
                               go_wp2
                               go_ret2
                               exact ⟨by first | rfl | (simp [errW_none, errW_some] <;> rfl) | (simp [*, errW_none, errW_some] <;> rfl), by repeat (first | exact HB.out | apply below_alloc | apply pw_below_drewN | apply below_drew1)⟩
                             · rw [if_neg c21] at H
                               have c21b0 : decide ((l0.length : Int) ≤ (rd ((rd_T48 l0 x7_3).f1) x8_4)) = false := decide_eq_false c21
                               clear c21
                               by_cases c22 : 0 ≤ (rd ((rd_T48 l0 x7_3).f1) x8_4)
                               · rw [if_pos c22] at H
                                 have c22b0 : decide (0 ≤ (rd ((rd_T48 l0 x7_3).f1) x8_4)) = true := decide_eq_true c22
                                 clear c22
                                 by_cases c23 : (rd ((rd_T48 l0 x7_3).f1) x8_4) < (x6_4.length : Int)
                                 · rw [if_pos c23] at H
                                   have c23b0 : decide ((rd ((rd_T48 l0 x7_3).f1) x8_4) < (x6_4.length : Int)) = true := decide_eq_true c23
                                   clear c23
                                   obtain ⟨y277, hy277⟩ : ∃ y_ : List Int, y_ = (x6_4.set ((rd ((rd_T48 l0 x7_3).f1) x8_4) : Int).toNat (wrap64 ((rd x6_4 (rd ((rd_T48 l0 x7_3).f1) x8_4)) + 1))) := ⟨_, rfl⟩
                                   replace H : (purflingref04_Check.l2 k4 l0 y277 x7_3 (wrap64 (x8_4 + 1))) = some (r1, r2) := by first | (rw [hy277]; with_reducible exact H) | (have H2_ := (Option.bind_some _ _).symm.trans H; rw [hy277]; with_reducible exact H2_) | (have H2_ := (Option.bind_some _ _).symm.trans H; with_reducible exact H2_) | with_reducible exact H | (rw [hy277]; exact H) | exact H
                                   have Ny277 := Aside0.mk hy277
                                   clear hy277
                                   have H' := Aside0.mk H
                                   clear H
                                   have p273 : 0 ≤ (x7_3 : Int) := of_decide_eq_true (by first | (with_reducible assumption) | assumption)
                                   have q273 : x7_3 < (l0.length : Int) := of_decide_eq_true (by first | (with_reducible assumption) | assumption)
                                   obtain ⟨ad273, A273_1, c273_1, A273_31, c273_31, e273, hx273_0, hx273_1, -, -, -, -, -, -, -, -, -, -, -, -, -, -, -, -, -, -, -, -, hx273_22, -, -, -, -, -, -, -, -, hx273_31, -, -, hl273_1, hi273_1, hl273_31, hi273_31⟩ := at_T48 HR0.out x7_3 p273 q273
                                   cases e273
                                   replace hx273_0 := (HB.out.cell (World.block_lt_of_cell? w _ hx273_0)).trans hx273_0
                                   replace hx273_1 := (HB.out.cell (World.block_lt_of_cell? w _ hx273_1)).trans hx273_1
                                   replace hx273_22 := (HB.out.cell (World.block_lt_of_cell? w _ hx273_22)).trans hx273_22
                                   replace hx273_31 := (HB.out.cell (World.block_lt_of_cell? w _ hx273_31)).trans hx273_31
                                   have HR273_1 := Aside0.mk hi273_1
                                   have HC273_1 := Aside0.mk hl273_1
                                   clear hi273_1 hl273_1
                                   have HR273_31 := Aside0.mk hi273_31
                                   have HC273_31 := Aside0.mk hl273_31
                                   clear hi273_31 hl273_31
                                   replace p273 := eq_true p273
                                   replace q273 := eq_true q273
                                   have p274 : 0 ≤ (x7_3 : Int) := of_decide_eq_true (by first | (with_reducible assumption) | assumption)
                                   have q274 : x7_3 < (l0.length : Int) := of_decide_eq_true (by first | (with_reducible assumption) | assumption)
                                   obtain ⟨ad274, A274_1, c274_1, A274_31, c274_31, e274, hx274_0, hx274_1, -, -, -, -, -, -, -, -, -, -, -, -, -, -, -, -, -, -, -, -, hx274_22, -, -, -, -, -, -, -, -, hx274_31, -, -, hl274_1, hi274_1, hl274_31, hi274_31⟩ := at_T48 HR0.out x7_3 p274 q274
                                   obtain rfl : ad273 = ad274 := (by injection e274)
                                   replace hx274_0 := (HB.out.cell (World.block_lt_of_cell? w _ hx274_0)).trans hx274_0
                                   replace hx274_1 := (HB.out.cell (World.block_lt_of_cell? w _ hx274_1)).trans hx274_1
                                   replace hx274_22 := (HB.out.cell (World.block_lt_of_cell? w _ hx274_22)).trans hx274_22
                                   replace hx274_31 := (HB.out.cell (World.block_lt_of_cell? w _ hx274_31)).trans hx274_31
                                   have HR274_1 := Aside0.mk hi274_1
                                   have HC274_1 := Aside0.mk hl274_1
                                   clear hi274_1 hl274_1
                                   have HR274_31 := Aside0.mk hi274_31
                                   have HC274_31 := Aside0.mk hl274_31
                                   clear hi274_31 hl274_31
                                   replace p274 := eq_true p274
                                   replace q274 := eq_true q274
                                   have ea_ := Option.some.inj (hx273_1.symm.trans hx274_1)
                                   injection ea_ with ea_ en_ ec_
                                   subst ea_
                                   subst ec_
                                   clear en_
                                   have ea_ := Option.some.inj (hx273_31.symm.trans hx274_31)
                                   injection ea_ with ea_ en_ ec_
                                   subst ea_
                                   subst ec_
                                   clear en_
                                   have p275 : 0 ≤ (x8_4 : Int) := of_decide_eq_true (by first | (with_reducible assumption) | assumption)
                                   have q275 : x8_4 < (((rd_T48 l0 x7_3).f1).length : Int) := of_decide_eq_true (by first | (with_reducible assumption) | assumption)
                                   obtain ⟨ad275, e275, hx275_0⟩ := Kd.at_int HR274_1.out x8_4 p275 q275
                                   cases e275
                                   replace hx275_0 := (HB.out.cell (World.block_lt_of_cell? w _ hx275_0)).trans hx275_0
                                   replace p275 := eq_true p275
                                   replace q275 := eq_true q275
                                   obtain ⟨Ao25, co25, eo25⟩ := Kd.R_slice HO_6.out
                                   subst eo25
                                   have p276 : 0 ≤ ((rd ((rd_T48 l0 x7_3).f1) x8_4) : Int) := of_decide_eq_true (by first | (with_reducible assumption) | assumption)
                                   have q276 : (rd ((rd_T48 l0 x7_3).f1) x8_4) < (x6_4.length : Int) := of_decide_eq_true (by first | (with_reducible assumption) | assumption)
                                   obtain ⟨ad276, e276, hx276_0⟩ := Kd.at_int (Kd.R_reads' HO_6.out).2.2 (rd ((rd_T48 l0 x7_3).f1) x8_4) p276 q276
                                   cases e276
                                   replace p276 := eq_true p276
                                   replace q276 := eq_true q276
                                   have p24 : 0 ≤ ((rd ((rd_T48 l0 x7_3).f1) x8_4) : Int) := of_decide_eq_true (by first | (with_reducible assumption) | assumption)
                                   have q24 : ((rd ((rd_T48 l0 x7_3).f1) x8_4) : Int) < ((x6_4.length : Int) : Int) := of_decide_eq_true (by first | (with_reducible assumption) | assumption)
                                   obtain ⟨go24, co24, eo24, gb24, gl24, cl24, HG24⟩ := Kd.R_form HO_6.out (by omega)
                                   (first | cases eo24 | (injection eo24 with ea_ en_ ec_; (first | subst ea_ | (injection ea_ with ea_; subst ea_)); subst ec_; clear en_))
                                   have GB24 := Aside0.mk gb24
                                   have GG24 := Aside0.mk HG24
                                   clear gb24 gl24 HG24
                                   (first | simp only [add_plain] at hx276_0 | skip)
                                   obtain ⟨hx24_0, hf24_0⟩ := Kd.R_celln 0 HO_6.out ((rd ((rd_T48 l0 x7_3).f1) x8_4) : Int) p24 q24
                                   replace p24 := eq_true p24
                                   replace q24 := eq_true q24
                                   have HP26 := Kd.R_putg HO_6.out ((rd ((rd_T48 l0 x7_3).f1) x8_4) : Int) (wrap64 ((rd x6_4 (rd ((rd_T48 l0 x7_3).f1) x8_4)) + 1))
                                   go_wp2_with (first | ((with_reducible refine gate_store (t := 3) (p := 81) rfl ?_); refine store_event (t := 3) (p := 81) (v := ?vo_w27) (w1 := (wr.setCell ⟨go24, ((rd ((rd_T48 l0 x7_3).f1) x8_4) : Int).toNat, none⟩ (.int .i64 (wrap64 ((rd x6_4 (rd ((rd_T48 l0 x7_3).f1) x8_4)) + 1))))) ?hg ?ho ?hn ?hr ?_; (case ho => rfl); (case hg => rfl); (case hn => rfl); (case hr => first | (go_simp; done) | (go_simp; rfl)); intro w27 hw; have hg : wr.grownBy w27 (some go24) := (by rw [hw]; exact HP26.2); have hp_ : Kd.R (Kd.int .i64) 3 w27 w.heap.size (fun _ => True) (.slice (some ⟨go24, 0, none⟩) x6_4.length co25) y277 := (by rw [hw, Ny277.out]; exact HP26.1); clear HP26; have n0_ := Aside0.mk (hp_); have n1_ := Aside0.mk ((by rw [hw]; exact below_set (HB.out) GB24.out : Below w.heap.size w w27)); clear HO_6; clear HB; have HO_6 := n0_; have HB := n1_; clear n0_ n1_; clear hg hw hp_))
                                   go_roundg k4
                                   case measure => have := HJ1.out; have := HK2.out; have := HK3.out; have := HK4.out; omega
                                   case rel => exact ⟨(y277), (wrap64 (x8_4 + 1)), (by first | rfl | (simp; done) | (simp [*]; done)), H', ⟨by have := HJ1.out; have := HK2.out; have := HK3.out; have := HK4.out; omega⟩, ⟨by (with_reducible repeat (first | apply Kd.R_alloc | apply Kd.R_drewN | apply Kd.R_drew)); exact HO_6.out⟩, ⟨by repeat (first | exact HB.out | apply below_alloc | apply pw_below_drewN | apply below_drew1)⟩⟩
                                 · rw [if_neg c23] at H
                                   exact absurd H (by simp)
                               · rw [if_neg c22] at H
                                 exact absurd H (by simp)
                         · rw [if_neg c19] at H
                           exact absurd H (by simp)
                       · rw [if_neg c18] at H
                         have c18b0 : decide (x8_4 < (((rd_T48 l0 x7_3).f1).length : Int)) = false := decide_eq_false c18
                         clear c18
                         have H' := Aside0.mk H
                         clear H
                         have p273 : 0 ≤ (x7_3 : Int) := of_decide_eq_true (by first | (with_reducible assumption) | assumption)
                         have q273 : x7_3 < (l0.length : Int) := of_decide_eq_true (by first | (with_reducible assumption) | assumption)
                         obtain ⟨ad273, A273_1, c273_1, A273_31, c273_31, e273, hx273_0, hx273_1, -, -, -, -, -, -, -, -, -, -, -, -, -, -, -, -, -, -, -, -, hx273_22, -, -, -, -, -, -, -, -, hx273_31, -, -, hl273_1, hi273_1, hl273_31, hi273_31⟩ := at_T48 HR0.out x7_3 p273 q273
                         cases e273
                         replace hx273_0 := (HB.out.cell (World.block_lt_of_cell? w _ hx273_0)).trans hx273_0
                         replace hx273_1 := (HB.out.cell (World.block_lt_of_cell? w _ hx273_1)).trans hx273_1
                         replace hx273_22 := (HB.out.cell (World.block_lt_of_cell? w _ hx273_22)).trans hx273_22
                         replace hx273_31 := (HB.out.cell (World.block_lt_of_cell? w _ hx273_31)).trans hx273_31
                         have HR273_1 := Aside0.mk hi273_1
                         have HC273_1 := Aside0.mk hl273_1
                         clear hi273_1 hl273_1
                         have HR273_31 := Aside0.mk hi273_31
                         have HC273_31 := Aside0.mk hl273_31
                         clear hi273_31 hl273_31
                         replace p273 := eq_true p273
                         replace q273 := eq_true q273
                         go_wp2
                         go_roundg k4
                         case measure => have := HJ1.out; have := HK2.out; have := HK3.out; have := HK4.out; omega
                         case rel => exact ⟨(x6_4), (wrap64 (x7_3 + 1)), (by first | rfl | (simp; done) | (simp [*]; done)), H', ⟨by have := HJ1.out; have := HK2.out; have := HK3.out; have := HK4.out; omega⟩, ⟨by (with_reducible repeat (first | apply Kd.R_alloc | apply Kd.R_drewN | apply Kd.R_drew)); exact HO_6.out⟩, ⟨by repeat (first | exact HB.out | apply below_alloc | apply pw_below_drewN | apply below_drew1)⟩⟩
                     · rw [if_neg c17] at H
                       exact absurd H (by simp)
                   · rw [if_neg c16] at H
                     exact absurd H (by simp)
               · rw [if_neg c15] at H
                 have c15b0 : decide (x7_3 < (l0.length : Int)) = false := decide_eq_false c15
                 clear c15
                 by_cases c28 : 0 ≤ (l0.length : Int)
                 · rw [if_pos c28] at H
                   have c28b0 := eq_true c28
                   have c28b1 : decide (0 ≤ (l0.length : Int)) = true := decide_eq_true c28
                   clear c28
                   by_cases c29 : ((l0.length : Int) : Int).toNat ≤ 281474976710656
                   · rw [if_pos c29] at H
                     have c29b0 := eq_true c29
                     have c29b1 : decide (((l0.length : Int) : Int).toNat ≤ 281474976710656) = true := decide_eq_true c29
                     clear c29
                     obtain ⟨y278, hy278⟩ : ∃ y_ : List Bool, y_ = (List.replicate ((l0.length : Int) : Int).toNat false) := ⟨_, rfl⟩
                     replace H : (purflingref04_Check.l3 k3 l0 x6_3 y278 false 1) = some (r1, r2) := by first | (rw [hy278]; with_reducible exact H) | (have H2_ := (Option.bind_some _ _).symm.trans H; rw [hy278]; with_reducible exact H2_) | (have H2_ := (Option.bind_some _ _).symm.trans H; with_reducible exact H2_) | with_reducible exact H | (rw [hy278]; exact H) | exact H
                     have Ny278 := Aside0.mk hy278
                     clear hy278
                     have H' := Aside0.mk H
                     clear H
                     go_wp2_with (first | ((with_reducible refine gate_dst (N := 84) rfl ?_); (try (refine gate_guard (by rfl) ?_; dsimp only)); refine Kd.R_make Kd.bool _ 4 rfl (N := 84) rfl 80 _ _ rfl (l0.length : Int) rfl rfl Try.underlying80 (.bool false) 1 info4 rfl (by decide) (by omega) false (ok := fun _ => True) (okp := fun _ => True) rfl (fun _ hk => hk) trivial (of_decide_eq_true (by first | (with_reducible assumption) | assumption)) (Nat.le_trans (Nat.mul_le_mul_right _ (of_decide_eq_true (by first | (with_reducible assumption) | assumption) : (l0.length : Int).toNat ≤ 281474976710656)) (by omega)) (Below.refl _ _) (Nat.le_refl _) ?_; intro v279 w30 ho31 hb hg_ hnew_; clear hg_ hnew_; (first | rw [← Ny278.out] at ho31 | (simp only [Int.reduceToNat] at ho31; rw [← Ny278.out] at ho31)); have n0_ := Aside0.mk (Kd.R_below (by (with_reducible repeat (first | apply Kd.R_alloc | apply Kd.R_drewN | apply Kd.R_drew)); exact HO_6.out) hb); have n1_ := Aside0.mk (Kd.R_lower ho31 (below_size (by repeat (first | exact HB.out | apply below_alloc | apply pw_below_drewN | apply below_drew1)))); have n2_ := Aside0.mk (below_step (by repeat (first | exact HB.out | apply below_alloc | apply pw_below_drewN | apply below_drew1)) hb); clear HO_6; clear HB; have HO_6 := n0_; have HO280 := n1_; have HB := n2_; clear n0_ n1_ n2_; clear hb ho31))
                     go_loopg [11, 12] k3 (fun kq v11 v12 w' => ∃ (x11_4 : Bool) (x12_4 : Int), v11 = .bool x11_4 ∧ v12 = .int .i64 x12_4 ∧ Aside0 (purflingref04_Check.l3 kq l0 x6_3 y278 x11_4 x12_4 = some (r1, r2)) ∧ Aside0 (kq ≤ k3) ∧ Aside0 (Kd.R (Kd.int .i64) 3 w' w.heap.size (fun _ => True) v271 x6_3) ∧ Aside0 (Kd.R Kd.bool 4 w' w.heap.size (fun _ => True) v279 y278) ∧ Aside0 (Below w.heap.size w w'))
                     case atStart => exact ⟨(false), (1), (by first | rfl | (simp; done) | (simp [*]; done)), (by first | rfl | (simp; done) | (simp [*]; done)), H', ⟨Nat.le_refl _⟩, ⟨by (with_reducible repeat (first | apply Kd.R_alloc | apply Kd.R_drewN | apply Kd.R_drew)); exact HO_6.out⟩, ⟨by (with_reducible repeat (first | apply Kd.R_alloc | apply Kd.R_drewN | apply Kd.R_drew)); exact HO280.out⟩, ⟨by repeat (first | exact HB.out | apply below_alloc | apply pw_below_drewN | apply below_drew1)⟩⟩
                     case round =>
                      clear H'
                      try clear c1
                      try clear c2
                      try clear p2
                      try clear q2
                      try clear hx2
                      try clear hf2
                      try clear c3
                      try clear c3b0
                      try clear c3b1
                      try clear c4
                      try clear c5
                      try clear c5b0
                      try clear c6
                      try clear c6b0
                      try clear p6
                      try clear c8
                      try clear c11
                      try clear c11b0
                      try clear c11b1
                      try clear c12
                      try clear c12b0
                      try clear c12b1
                      try clear c15
                      try clear c15b0
                      try clear c16
                      try clear c16b0
                      try clear c17
                      try clear c17b0
                      try clear c18
                      try clear c18b0
                      try clear c19
                      try clear c19b0
                      try clear c20
                      try clear c20b0
                      try clear c21
                      try clear c21b0
                      try clear c22
                      try clear c22b0
                      try clear c23
                      try clear c23b0
                      try clear p24
                      try clear q24
                      try clear hx24
                      try clear hf24
                      try clear p26
                      try clear q26
                      try clear hx26
                      try clear c27
                      try clear p27
                      try clear q27
                      try clear hx27
                      try clear c28
                      try clear c28b0
                      try clear c28b1
                      try clear c29
                      try clear c29b0
                      try clear c29b1
                      try clear hx24_0
                      try clear hx268_0
                      try clear hx268_1
                      try clear hx268_10
                      try clear hx268_11
                      try clear hx268_12
                      try clear hx268_13
                      try clear hx268_14
                      try clear hx268_15
                      try clear hx268_16
                      try clear hx268_17
                      try clear hx268_18
                      try clear hx268_19
                      try clear hx268_2
                      try clear hx268_20
                      try clear hx268_21
                      try clear hx268_22
                      try clear hx268_23
                      try clear hx268_24
                      try clear hx268_25
                      try clear hx268_26
                      try clear hx268_27
                      try clear hx268_28
                      try clear hx268_29
                      try clear hx268_3
                      try clear hx268_30
                      try clear hx268_31
                      try clear hx268_32
                      try clear hx268_33
                      try clear hx268_4
                      try clear hx268_5
                      try clear hx268_6
                      try clear hx268_7
                      try clear hx268_8
                      try clear hx268_9
                      try clear hx273_0
                      try clear hx273_1
                      try clear hx273_22
                      try clear hx273_31
                      try clear hx274_0
                      try clear hx274_1
                      try clear hx274_22
                      try clear hx274_31
                      try clear hx275_0
                      try clear hx276_0
                      try clear p2
                      try clear p24
                      try clear p268
                      try clear p273
                      try clear p274
                      try clear p275
                      try clear p276
                      try clear p6
                      try clear q2
                      try clear q24
                      try clear q268
                      try clear q273
                      try clear q274
                      try clear q275
                      try clear q276
                      obtain ⟨x11_4, x12_4, rfl, rfl, HA, HK4, HO_6, HO_10, HB⟩ := hrel
                      cases gk with
                      | zero => exact absurd HA.out (by simp [purflingref04_Check.l3])
                      | succ k4 =>
                       have H := HA.out
                       clear HA
                       simp only [purflingref04_Check.l3] at H
                       by_cases c32 : x12_4 < (l0.length : Int)
                       · rw [if_pos c32] at H
                         have c32b0 : decide (x12_4 < (l0.length : Int)) = true := decide_eq_true c32
                         clear c32
                         by_cases c33 : x11_4 = true
                         · subst c33
                           have H1 : (purflingref04_Check.l3 k4 l0 x6_3 y278 true (wrap64 (x12_4 + 1))) = some (r1, r2) := by rw [if_pos rfl] at H; exact H
                           clear H
                           have H := H1
                           clear H1
                           have H' := Aside0.mk H
                           clear H
                           go_wp2
                           go_roundg k4
                           case measure => have := HJ1.out; have := HK2.out; have := HK3.out; have := HK4.out; omega
                           case rel => exact ⟨(true), (wrap64 (x12_4 + 1)), (by first | rfl | (simp; done) | (simp [*]; done)), (by first | rfl | (simp; done) | (simp [*]; done)), H', ⟨by have := HJ1.out; have := HK2.out; have := HK3.out; have := HK4.out; omega⟩, ⟨by (with_reducible repeat (first | apply Kd.R_alloc | apply Kd.R_drewN | apply Kd.R_drew)); exact HO_6.out⟩, ⟨by (with_reducible repeat (first | apply Kd.R_alloc | apply Kd.R_drewN | apply Kd.R_drew)); exact HO_10.out⟩, ⟨by repeat (first | exact HB.out | apply below_alloc | apply pw_below_drewN | apply below_drew1)⟩⟩
                         · replace c33 := Bool.eq_false_iff.mpr c33
                           subst c33
                           have H1 : (if 0 ≤ x12_4 then (if x12_4 < (x6_3.length : Int) then (purflingref04_Check.l3 k4 l0 x6_3 y278 ((rd x6_3 x12_4) != 1) (wrap64 (x12_4 + 1))) else (none)) else (none)) = some (r1, r2) := by rw [if_neg (show ¬ (false = true) by decide)] at H; exact H
                           clear H
                           have H := H1
                           clear H1
                           by_cases c34 : 0 ≤ x12_4
                           · rw [if_pos c34] at H
                             have c34b0 : decide (0 ≤ x12_4) = true := decide_eq_true c34
                             clear c34
                             by_cases c35 : x12_4 < (x6_3.length : Int)
                             · rw [if_pos c35] at H
                               have c35b0 : decide (x12_4 < (x6_3.length : Int)) = true := decide_eq_true c35
                               clear c35
                               have H' := Aside0.mk H
                               clear H
                               obtain ⟨Ao36, co36, eo36⟩ := Kd.R_slice HO_6.out
                               subst eo36
                               have p281 : 0 ≤ (x12_4 : Int) := of_decide_eq_true (by first | (with_reducible assumption) | assumption)
                               have q281 : x12_4 < (x6_3.length : Int) := of_decide_eq_true (by first | (with_reducible assumption) | assumption)
                               obtain ⟨ad281, e281, hx281_0⟩ := Kd.at_int (Kd.R_reads' HO_6.out).2.2 x12_4 p281 q281
                               cases e281
                               replace p281 := eq_true p281
                               replace q281 := eq_true q281
                               go_wp2
                               go_roundg k4
                               case measure => have := HJ1.out; have := HK2.out; have := HK3.out; have := HK4.out; omega
                               case rel => exact ⟨(((rd x6_3 x12_4) != 1)), (wrap64 (x12_4 + 1)), (by first | rfl | (simp; done) | (simp [*]; done)), (by first | rfl | (simp; done) | (simp [*]; done)), H', ⟨by have := HJ1.out; have := HK2.out; have := HK3.out; have := HK4.out; omega⟩, ⟨by (with_reducible repeat (first | apply Kd.R_alloc | apply Kd.R_drewN | apply Kd.R_drew)); exact HO_6.out⟩, ⟨by (with_reducible repeat (first | apply Kd.R_alloc | apply Kd.R_drewN | apply Kd.R_drew)); exact HO_10.out⟩, ⟨by repeat (first | exact HB.out | apply below_alloc | apply pw_below_drewN | apply below_drew1)⟩⟩
                             · rw [if_neg c35] at H
                               exact absurd H (by simp)
                           · rw [if_neg c34] at H
                             exact absurd H (by simp)
                       · rw [if_neg c32] at H
                         have c32b0 : decide (x12_4 < (l0.length : Int)) = false := decide_eq_false c32
                         clear c32
                         have HC37 := Aside0.mk H
                         clear H
                         go_upto_if 100 with (fail)
                         go_cut [] (fun wc => ∃ (kq : Nat) (x10_36 : List Bool), Aside0 (purflingref04_Check.j6 kq l0 x6_3 x10_36 x11_4 = some (r1, r2)) ∧ Aside0 (kq ≤ k4) ∧ Aside0 (Kd.R (Kd.int .i64) 3 wc w.heap.size (fun _ => True) v271 x6_3) ∧ Aside0 (Kd.R Kd.bool 4 wc w.heap.size (fun _ => True) v279 x10_36) ∧ Aside0 (Below w.heap.size w wc))
                         case first =>
                          have H := HC37.out
                          clear HC37
                          by_cases c38 : x11_4 = true
                          · subst c38
                            have H1 : (purflingref04_Check.j6 k4 l0 x6_3 y278 true) = some (r1, r2) := by rw [if_pos rfl] at H; exact H
                            clear H
                            have H := H1
                            clear H1
                            have H' := Aside0.mk H
                            clear H
                            go_wp2
                            go_meet
                            case rel => exact ⟨_, (y278), H', ⟨by have := HJ1.out; have := HK2.out; have := HK3.out; have := HK4.out; first | omega | exact Nat.le_refl _⟩, ⟨by (with_reducible repeat (first | apply Kd.R_alloc | apply Kd.R_drewN | apply Kd.R_drew)); exact HO_6.out⟩, ⟨by (with_reducible repeat (first | apply Kd.R_alloc | apply Kd.R_drewN | apply Kd.R_drew)); exact HO_10.out⟩, ⟨by repeat (first | exact HB.out | apply below_alloc | apply pw_below_drewN | apply below_drew1)⟩⟩
                          · replace c38 := Bool.eq_false_iff.mpr c38
                            subst c38
                            have H1 : ((purflingref04_order.f k4 l0 0 ([] : List Int)).bind fun t282 => (purflingref04_Check.l4 k4 l0 x6_3 y278 false t282 0)) = some (r1, r2) := by rw [if_neg (show ¬ (false = true) by decide)] at H; exact H
                            clear H
                            have H := H1
                            clear H1
                            replace H := Option.bind_eq_some_iff.mp H
                            obtain ⟨t282, A390, H⟩ := H
                            replace H : (purflingref04_Check.l4 k4 l0 x6_3 y278 false t282 0) = some (r1, r2) := H
                            have A39 := Aside0.mk A390
                            clear A390
                            have H' := Aside0.mk H
                            clear H
                            go_wp2_with (first | ((with_reducible refine gate_callee (f := 40) rfl ?_); refine goesL_ (some 102) rfl rfl Try.func40 (by kernel_rfl) rfl #[.slice A0 l0.length c0, .int .i64 0, .slice none 0 0] rfl (by (try simp only [List.map_toArray, List.map_cons, List.map_nil]); first | done | rfl) ?_; (refine (purflingref04_order.calls k4 _ _ l0 0 (fun k_ => some k_ = (.slice none 0 0 : Value).ownBlock) (.slice none 0 0) ([] : List Int) t282 w _ ?side1 ?side2 ?side3 ?side4 A39.out).mono ?_); (case side1 => repeat (first | exact HB.out | apply below_alloc | apply pw_below_drewN | apply below_drew1)); (case side2 => exact Kd.C_kept_came k48_heap HR0.out (by repeat (first | exact HB.out | apply below_alloc | apply pw_below_drewN | apply below_drew1)) (fun k_ hs_ => (fun e_ => by simp [Value.ownBlock] at e_) hs_)); (case side3 => exact HC0.out); (case side4 => exact Kd.R_nil _ _ _ _ _); rintro e w40 ⟨v283, rfl, ho0, hb, hkp⟩; refine ⟨_, rfl, ?_⟩; have n0_ := Aside0.mk (Kd.R_mono (ok' := fun k_ => some k_ ≠ (v283 : Value).ownBlock) (Kd.R_keptB (HO_6.out) hkp (fun k_ hk_ hs_ => (fun e_ => by simp [Value.ownBlock] at e_) hs_)) (fun k_ hk_ => fun e_ => Or.elim (ho0.1 k_ e_.symm) (fun hs_ => hk_.2.1 hs_) (fun hn_ => Nat.not_le.2 hk_.2.2 hn_))); have n1_ := Aside0.mk (Kd.R_mono (ok' := fun k_ => True) (Kd.R_keptB (HO_10.out) hkp (fun k_ hk_ hs_ => (fun e_ => by simp [Value.ownBlock] at e_) hs_)) (fun k_ hk_ => trivial)); have n2_ := Aside0.mk (Kd.R_mono (ok' := fun k_ => some k_ ≠ (v271 : Value).ownBlock) ho0 (fun k_ hk_ => Or.elim hk_ (fun hs_ => absurd hs_ (by simp [Value.ownBlock])) (fun hn_ => (Kd.fresh' (Kd.R_lt (by (with_reducible repeat (first | apply Kd.R_alloc | apply Kd.R_drewN | apply Kd.R_drew)); exact HO_6.out)) k_ hn_)))); have n3_ := Aside0.mk (hb); clear HO_6; clear HO_10; clear HB; have HO_6 := n0_; have HO_10 := n1_; have HO284 := n2_; have HB := n3_; clear n0_ n1_ n2_ n3_; (try clear hb); (try clear hkp); (try clear ho0)))
                            go_loopg [14] k4 (fun kq v14 w' => ∃ (x10_5 : List Bool) (x14_5 : Int), v14 = .int .i64 x14_5 ∧ Aside0 (purflingref04_Check.l4 kq l0 x6_3 x10_5 false t282 x14_5 = some (r1, r2)) ∧ Aside0 (kq ≤ k4) ∧ Aside0 (Kd.R (Kd.int .i64) 3 w' w.heap.size (fun k_ => some k_ ≠ (v283 : Value).ownBlock) v271 x6_3) ∧ Aside0 (Kd.R Kd.bool 4 w' w.heap.size (fun _ => True) v279 x10_5) ∧ Aside0 (Kd.R (Kd.int .i64) 3 w' w.heap.size (fun k_ => some k_ ≠ (v271 : Value).ownBlock) v283 t282) ∧ Aside0 (Below w.heap.size w w'))
                            case atStart => exact ⟨(y278), (0), (by first | rfl | (simp; done) | (simp [*]; done)), H', ⟨Nat.le_refl _⟩, ⟨by (with_reducible repeat (first | apply Kd.R_alloc | apply Kd.R_drewN | apply Kd.R_drew)); exact HO_6.out⟩, ⟨by (with_reducible repeat (first | apply Kd.R_alloc | apply Kd.R_drewN | apply Kd.R_drew)); exact HO_10.out⟩, ⟨by (with_reducible repeat (first | apply Kd.R_alloc | apply Kd.R_drewN | apply Kd.R_drew)); exact HO284.out⟩, ⟨by repeat (first | exact HB.out | apply below_alloc | apply pw_below_drewN | apply below_drew1)⟩⟩
                            case round =>
                             clear H'
                             try clear c1
                             try clear c2
                             try clear p2
                             try clear q2
                             try clear hx2
                             try clear hf2
                             try clear c3
                             try clear c3b0
                             try clear c3b1
                             try clear c4
                             try clear c5
                             try clear c5b0
                             try clear c6
                             try clear c6b0
                             try clear p6
                             try clear c8
                             try clear c11
                             try clear c11b0
                             try clear c11b1
                             try clear c12
                             try clear c12b0
                             try clear c12b1
                             try clear c15
                             try clear c15b0
                             try clear c16
                             try clear c16b0
                             try clear c17
                             try clear c17b0
                             try clear c18
                             try clear c18b0
                             try clear c19
                             try clear c19b0
                             try clear c20
                             try clear c20b0
                             try clear c21
                             try clear c21b0
                             try clear c22
                             try clear c22b0
                             try clear c23
                             try clear c23b0
                             try clear p24
                             try clear q24
                             try clear hx24
                             try clear hf24
                             try clear p26
                             try clear q26
                             try clear hx26
                             try clear c27
                             try clear p27
                             try clear q27
                             try clear hx27
                             try clear c28
                             try clear c28b0
                             try clear c28b1
                             try clear p28
                             try clear q28
                             try clear hx28
                             try clear c29
                             try clear c29b0
                             try clear c29b1
                             try clear c32
                             try clear c32b0
                             try clear c33
                             try clear c34
                             try clear c34b0
                             try clear c35
                             try clear c35b0
                             try clear c38
                             try clear c40
                             try clear hx24_0
                             try clear hx268_0
                             try clear hx268_1
                             try clear hx268_10
                             try clear hx268_11
                             try clear hx268_12
                             try clear hx268_13
                             try clear hx268_14
                             try clear hx268_15
                             try clear hx268_16
                             try clear hx268_17
                             try clear hx268_18
                             try clear hx268_19
                             try clear hx268_2
                             try clear hx268_20
                             try clear hx268_21
                             try clear hx268_22
                             try clear hx268_23
                             try clear hx268_24
                             try clear hx268_25
                             try clear hx268_26
                             try clear hx268_27
                             try clear hx268_28
                             try clear hx268_29
                             try clear hx268_3
                             try clear hx268_30
                             try clear hx268_31
                             try clear hx268_32
                             try clear hx268_33
                             try clear hx268_4
                             try clear hx268_5
                             try clear hx268_6
                             try clear hx268_7
                             try clear hx268_8
                             try clear hx268_9
                             try clear hx273_0
                             try clear hx273_1
                             try clear hx273_22
                             try clear hx273_31
                             try clear hx274_0
                             try clear hx274_1
                             try clear hx274_22
                             try clear hx274_31
                             try clear hx275_0
                             try clear hx276_0
                             try clear hx281_0
                             try clear p2
                             try clear p24
                             try clear p26
                             try clear p268
                             try clear p27
                             try clear p273
                             try clear p274
                             try clear p275
                             try clear p276
                             try clear p281
                             try clear p6
                             try clear q2
                             try clear q24
                             try clear q26
                             try clear q268
                             try clear q27
                             try clear q273
                             try clear q274
                             try clear q275
                             try clear q276
                             try clear q281
                             obtain ⟨x10_5, x14_5, rfl, HA, HK5, HO_6, HO_10, HO_13, HB⟩ := hrel
                             cases gk with
                             | zero => exact absurd HA.out (by simp [purflingref04_Check.l4])
                             | succ k5 =>
                              have H := HA.out
                              clear HA
                              simp only [purflingref04_Check.l4] at H
                              by_cases c41 : x14_5 < (t282.length : Int)
                              · rw [if_pos c41] at H
                                have c41b0 : decide (x14_5 < (t282.length : Int)) = true := decide_eq_true c41
                                clear c41
                                (first | rw [c41b0] | (simp only [i64_w, i32_w]; rw [c41b0]) | skip)
                                by_cases c42 : 0 ≤ x14_5
                                · rw [if_pos c42] at H
                                  have c42b0 : decide (0 ≤ x14_5) = true := decide_eq_true c42
                                  clear c42
                                  by_cases c43 : 0 ≤ (rd t282 x14_5)
                                  · rw [if_pos c43] at H
                                    have c43b0 : decide (0 ≤ (rd t282 x14_5)) = true := decide_eq_true c43
                                    clear c43
                                    by_cases c44 : (rd t282 x14_5) < (x10_5.length : Int)
                                    · rw [if_pos c44] at H
                                      have c44b0 : decide ((rd t282 x14_5) < (x10_5.length : Int)) = true := decide_eq_true c44
                                      clear c44
                                      obtain ⟨y286, hy286⟩ : ∃ y_ : List Bool, y_ = (x10_5.set ((rd t282 x14_5) : Int).toNat true) := ⟨_, rfl⟩
                                      replace H : (purflingref04_Check.l4 k5 l0 x6_3 y286 false t282 (wrap64 (x14_5 + 1))) = some (r1, r2) := by first | (rw [hy286]; with_reducible exact H) | (have H2_ := (Option.bind_some _ _).symm.trans H; rw [hy286]; with_reducible exact H2_) | (have H2_ := (Option.bind_some _ _).symm.trans H; with_reducible exact H2_) | with_reducible exact H | (rw [hy286]; exact H) | exact H
                                      have Ny286 := Aside0.mk hy286
                                      clear hy286
                                      have H' := Aside0.mk H
                                      clear H
                                      obtain ⟨Ao46, co46, eo46⟩ := Kd.R_slice HO_13.out
                                      subst eo46
                                      have p285 : 0 ≤ (x14_5 : Int) := of_decide_eq_true (by first | (with_reducible assumption) | assumption)
                                      have q285 : x14_5 < (t282.length : Int) := of_decide_eq_true (by first | (with_reducible assumption) | assumption)
                                      obtain ⟨ad285, e285, hx285_0⟩ := Kd.at_int (Kd.R_reads' HO_13.out).2.2 x14_5 p285 q285
                                      cases e285
                                      replace p285 := eq_true p285
                                      replace q285 := eq_true q285
                                      have p45 : 0 ≤ ((rd t282 x14_5) : Int) := of_decide_eq_true (by first | (with_reducible assumption) | assumption)
                                      have q45 : ((rd t282 x14_5) : Int) < ((x10_5.length : Int) : Int) := of_decide_eq_true (by first | (with_reducible assumption) | assumption)
                                      obtain ⟨go45, co45, eo45, gb45, gl45, cl45, HG45⟩ := Kd.R_form HO_10.out (by omega)
                                      (first | cases eo45 | (injection eo45 with ea_ en_ ec_; (first | subst ea_ | (injection ea_ with ea_; subst ea_)); subst ec_; clear en_))
                                      have GB45 := Aside0.mk gb45
                                      have GG45 := Aside0.mk HG45
                                      clear gb45 gl45 HG45
                                      obtain ⟨hx45_0, hf45_0⟩ := Kd.R_celln false HO_10.out ((rd t282 x14_5) : Int) p45 q45
                                      replace p45 := eq_true p45
                                      replace q45 := eq_true q45
                                      have HP47 := Kd.R_putg HO_10.out ((rd t282 x14_5) : Int) true
                                      go_wp2_with (first | ((with_reducible refine gate_store (t := 4) (p := 114) rfl ?_); refine store_event (t := 4) (p := 114) (v := ?vo_w48) (w1 := (wr.setCell ⟨go45, ((rd t282 x14_5) : Int).toNat, none⟩ (.bool true))) ?hg ?ho ?hn ?hr ?_; (case ho => rfl); (case hg => rfl); (case hn => rfl); (case hr => first | (go_simp; done) | (go_simp; rfl)); intro w48 hw; have hg : wr.grownBy w48 (some go45) := (by rw [hw]; exact HP47.2); have hp_ : Kd.R Kd.bool 4 w48 w.heap.size (fun _ => True) (.slice (some ⟨go45, 0, none⟩) x10_5.length co45) y286 := (by rw [hw, Ny286.out]; exact HP47.1); clear HP47; have n0_ := Aside0.mk (Kd.R_over' (v := (.slice (some ⟨go45, 0, none⟩) x10_5.length co45)) (by (with_reducible repeat (first | apply Kd.R_alloc | apply Kd.R_drewN | apply Kd.R_drew)); exact HO_6.out) (Kd.R_typed HO_10.out) (by decide) hg); have n1_ := Aside0.mk (hp_); have n2_ := Aside0.mk (Kd.R_over' (v := (.slice (some ⟨go45, 0, none⟩) x10_5.length co45)) (by (with_reducible repeat (first | apply Kd.R_alloc | apply Kd.R_drewN | apply Kd.R_drew)); exact HO_13.out) (Kd.R_typed HO_10.out) (by decide) hg); have n3_ := Aside0.mk ((by rw [hw]; exact below_set (HB.out) GB45.out : Below w.heap.size w w48)); clear HO_6; clear HO_10; clear HO_13; clear HB; have HO_6 := n0_; have HO_10 := n1_; have HO_13 := n2_; have HB := n3_; clear n0_ n1_ n2_ n3_; clear hg hw hp_))
                                      go_roundg k5
                                      case measure => have := HJ1.out; have := HK2.out; have := HK3.out; have := HK4.out; have := HK5.out; omega
                                      case rel => exact ⟨(y286), (wrap64 (x14_5 + 1)), (by first | rfl | (simp; done) | (simp [*]; done)), H', ⟨by have := HJ1.out; have := HK2.out; have := HK3.out; have := HK4.out; have := HK5.out; omega⟩, ⟨by (with_reducible repeat (first | apply Kd.R_alloc | apply Kd.R_drewN | apply Kd.R_drew)); exact HO_6.out⟩, ⟨by (with_reducible repeat (first | apply Kd.R_alloc | apply Kd.R_drewN | apply Kd.R_drew)); exact HO_10.out⟩, ⟨by (with_reducible repeat (first | apply Kd.R_alloc | apply Kd.R_drewN | apply Kd.R_drew)); exact HO_13.out⟩, ⟨by repeat (first | exact HB.out | apply below_alloc | apply pw_below_drewN | apply below_drew1)⟩⟩
                                    · rw [if_neg c44] at H
                                      exact absurd H (by simp)
                                  · rw [if_neg c43] at H
                                    exact absurd H (by simp)
                                · rw [if_neg c42] at H
                                  exact absurd H (by simp)
                              · rw [if_neg c41] at H
                                have c41b0 : decide (x14_5 < (t282.length : Int)) = false := decide_eq_false c41
                                clear c41
                                (first | rw [c41b0] | (simp only [i64_w, i32_w]; rw [c41b0]) | skip)
                                have H' := Aside0.mk H
                                clear H
                                obtain ⟨Ao49, co49, eo49⟩ := Kd.R_slice HO_13.out
                                subst eo49
                                go_wp2
                                go_meet
                                case rel => exact ⟨_, (x10_5), H', ⟨by have := HJ1.out; have := HK2.out; have := HK3.out; have := HK4.out; have := HK5.out; first | omega | exact Nat.le_refl _⟩, ⟨by (with_reducible repeat (first | apply Kd.R_alloc | apply Kd.R_drewN | apply Kd.R_drew)); exact Kd.R_mono HO_6.out (fun _ hk => trivial)⟩, ⟨by (with_reducible repeat (first | apply Kd.R_alloc | apply Kd.R_drewN | apply Kd.R_drew)); exact HO_10.out⟩, ⟨by repeat (first | exact HB.out | apply below_alloc | apply pw_below_drewN | apply below_drew1)⟩⟩
                         case rest =>
                          clear HC37
                          try clear c1
                          try clear c2
                          try clear p2
                          try clear q2
                          try clear hx2
                          try clear hf2
                          try clear c3
                          try clear c3b0
                          try clear c3b1
                          try clear c4
                          try clear p4
                          try clear q4
                          try clear hx4
                          try clear hf4
                          try clear c5
                          try clear c5b0
                          try clear c6
                          try clear c6b0
                          try clear p6
                          try clear c8
                          try clear c11
                          try clear c11b0
                          try clear c11b1
                          try clear c12
                          try clear c12b0
                          try clear c12b1
                          try clear c15
                          try clear c15b0
                          try clear c16
                          try clear c16b0
                          try clear c17
                          try clear c17b0
                          try clear c18
                          try clear c18b0
                          try clear c19
                          try clear c19b0
                          try clear c20
                          try clear c20b0
                          try clear c21
                          try clear c21b0
                          try clear c22
                          try clear c22b0
                          try clear c23
                          try clear c23b0
                          try clear p24
                          try clear q24
                          try clear hx24
                          try clear hf24
                          try clear p26
                          try clear q26
                          try clear hx26
                          try clear c27
                          try clear p27
                          try clear q27
                          try clear hx27
                          try clear c28
                          try clear c28b0
                          try clear c28b1
                          try clear p28
                          try clear q28
                          try clear hx28
                          try clear c29
                          try clear c29b0
                          try clear c29b1
                          try clear c32
                          try clear c32b0
                          try clear c33
                          try clear c34
                          try clear c34b0
                          try clear c35
                          try clear c35b0
                          try clear c38
                          try clear c40
                          try clear c41
                          try clear c41b0
                          try clear c42
                          try clear c42b0
                          try clear c43
                          try clear c43b0
                          try clear c44
                          try clear c44b0
                          try clear p45
                          try clear q45
                          try clear hx45
                          try clear hf45
                          try clear hx24_0
                          try clear hx268_0
                          try clear hx268_1
                          try clear hx268_10
                          try clear hx268_11
                          try clear hx268_12
                          try clear hx268_13
                          try clear hx268_14
                          try clear hx268_15
                          try clear hx268_16
                          try clear hx268_17
                          try clear hx268_18
                          try clear hx268_19
                          try clear hx268_2
                          try clear hx268_20
                          try clear hx268_21
                          try clear hx268_22
                          try clear hx268_23
                          try clear hx268_24
                          try clear hx268_25
                          try clear hx268_26
                          try clear hx268_27
                          try clear hx268_28
                          try clear hx268_29
                          try clear hx268_3
                          try clear hx268_30
                          try clear hx268_31
                          try clear hx268_32
                          try clear hx268_33
                          try clear hx268_4
                          try clear hx268_5
                          try clear hx268_6
                          try clear hx268_7
                          try clear hx268_8
                          try clear hx268_9
                          try clear hx273_0
                          try clear hx273_1
                          try clear hx273_22
                          try clear hx273_31
                          try clear hx274_0
                          try clear hx274_1
                          try clear hx274_22
                          try clear hx274_31
                          try clear hx275_0
                          try clear hx276_0
                          try clear hx281_0
                          try clear hx285_0
                          try clear hx45_0
                          try clear p2
                          try clear p24
                          try clear p26
                          try clear p268
                          try clear p27
                          try clear p273
                          try clear p274
                          try clear p275
                          try clear p276
                          try clear p28
                          try clear p281
                          try clear p285
                          try clear p45
                          try clear p6
                          try clear q2
                          try clear q24
                          try clear q26
                          try clear q268
                          try clear q27
                          try clear q273
                          try clear q274
                          try clear q275
                          try clear q276
                          try clear q28
                          try clear q281
                          try clear q285
                          try clear q45
                          obtain ⟨kq, x10_36, HA, HJ36, HO_6, HO_10, HB⟩ := hcut
                          cases kq with
                          | zero => exact absurd HA.out (by simp [purflingref04_Check.j6])
                          | succ kj36 =>
                           have H := HA.out
                           clear HA
                           simp only [purflingref04_Check.j6] at H
                           have H' := Aside0.mk H
                           clear H
                           go_wp2
                           go_loopg [15] kj36 (fun kq v15 w' => ∃ (x15_6 : Int), v15 = .int .i64 x15_6 ∧ Aside0 (purflingref04_Check.l5 kq l0 x6_3 x10_36 x11_4 x15_6 = some (r1, r2)) ∧ Aside0 (kq ≤ kj36) ∧ Aside0 (Kd.R (Kd.int .i64) 3 w' w.heap.size (fun _ => True) v271 x6_3) ∧ Aside0 (Kd.R Kd.bool 4 w' w.heap.size (fun _ => True) v279 x10_36) ∧ Aside0 (Below w.heap.size w w'))
                           case atStart => exact ⟨(1), (by first | rfl | (simp; done) | (simp [*]; done)), H', ⟨Nat.le_refl _⟩, ⟨by (with_reducible repeat (first | apply Kd.R_alloc | apply Kd.R_drewN | apply Kd.R_drew)); exact HO_6.out⟩, ⟨by (with_reducible repeat (first | apply Kd.R_alloc | apply Kd.R_drewN | apply Kd.R_drew)); exact HO_10.out⟩, ⟨by repeat (first | exact HB.out | apply below_alloc | apply pw_below_drewN | apply below_drew1)⟩⟩
                           case round =>
                            clear H'
                            try clear c1
                            try clear c2
                            try clear p2
                            try clear q2
                            try clear hx2
                            try clear hf2
                            try clear c3
                            try clear c3b0
                            try clear c3b1
                            try clear c4
                            try clear p4
                            try clear q4
                            try clear hx4
                            try clear hf4
                            try clear c5
                            try clear c5b0
                            try clear c6
                            try clear c6b0
                            try clear p6
                            try clear c8
                            try clear c11
                            try clear c11b0
                            try clear c11b1
                            try clear c12
                            try clear c12b0
                            try clear c12b1
                            try clear c15
                            try clear c15b0
                            try clear c16
                            try clear c16b0
                            try clear c17
                            try clear c17b0
                            try clear c18
                            try clear c18b0
                            try clear c19
                            try clear c19b0
                            try clear c20
                            try clear c20b0
                            try clear c21
                            try clear c21b0
                            try clear c22
                            try clear c22b0
                            try clear c23
                            try clear c23b0
                            try clear p24
                            try clear q24
                            try clear hx24
                            try clear hf24
                            try clear p26
                            try clear q26
                            try clear hx26
                            try clear c27
                            try clear p27
                            try clear q27
                            try clear hx27
                            try clear c28
                            try clear c28b0
                            try clear c28b1
                            try clear p28
                            try clear q28
                            try clear hx28
                            try clear c29
                            try clear c29b0
                            try clear c29b1
                            try clear c32
                            try clear c32b0
                            try clear c33
                            try clear c34
                            try clear c34b0
                            try clear c35
                            try clear c35b0
                            try clear c38
                            try clear c40
                            try clear c41
                            try clear c41b0
                            try clear c42
                            try clear c42b0
                            try clear c43
                            try clear c43b0
                            try clear c44
                            try clear c44b0
                            try clear p45
                            try clear q45
                            try clear hx45
                            try clear hf45
                            try clear hx24_0
                            try clear hx268_0
                            try clear hx268_1
                            try clear hx268_10
                            try clear hx268_11
                            try clear hx268_12
                            try clear hx268_13
                            try clear hx268_14
                            try clear hx268_15
                            try clear hx268_16
                            try clear hx268_17
                            try clear hx268_18
                            try clear hx268_19
                            try clear hx268_2
                            try clear hx268_20
                            try clear hx268_21
                            try clear hx268_22
                            try clear hx268_23
                            try clear hx268_24
                            try clear hx268_25
                            try clear hx268_26
                            try clear hx268_27
                            try clear hx268_28
                            try clear hx268_29
                            try clear hx268_3
                            try clear hx268_30
                            try clear hx268_31
                            try clear hx268_32
                            try clear hx268_33
                            try clear hx268_4
                            try clear hx268_5
                            try clear hx268_6
                            try clear hx268_7
                            try clear hx268_8
                            try clear hx268_9
                            try clear hx273_0
                            try clear hx273_1
                            try clear hx273_22
                            try clear hx273_31
                            try clear hx274_0
                            try clear hx274_1
                            try clear hx274_22
                            try clear hx274_31
                            try clear hx275_0
                            try clear hx276_0
                            try clear hx281_0
                            try clear hx285_0
                            try clear hx45_0
                            try clear p2
                            try clear p24
                            try clear p26
                            try clear p268
                            try clear p27
                            try clear p273
                            try clear p274
                            try clear p275
                            try clear p276
                            try clear p28
                            try clear p281
                            try clear p285
                            try clear p4
                            try clear p45
                            try clear p6
                            try clear q2
                            try clear q24
                            try clear q26
                            try clear q268
                            try clear q27
                            try clear q273
                            try clear q274
                            try clear q275
                            try clear q276
                            try clear q28
                            try clear q281
                            try clear q285
                            try clear q4
                            try clear q45
                            obtain ⟨x15_6, rfl, HA, HK6, HO_6, HO_10, HB⟩ := hrel
                            cases gk with
                            | zero => exact absurd HA.out (by simp [purflingref04_Check.l5])
                            | succ k6 =>
                             have H := HA.out
                             clear HA
                             simp only [purflingref04_Check.l5] at H
                             by_cases c50 : x15_6 < (l0.length : Int)
                             · rw [if_pos c50] at H
                               have c50b0 : decide (x15_6 < (l0.length : Int)) = true := decide_eq_true c50
                               clear c50
                               by_cases c51 : 0 ≤ x15_6
                               · rw [if_pos c51] at H
                                 have c51b0 : decide (0 ≤ x15_6) = true := decide_eq_true c51
                                 clear c51
                                 by_cases c52 : x15_6 < (x6_3.length : Int)
                                 · rw [if_pos c52] at H
                                   have c52b0 : decide (x15_6 < (x6_3.length : Int)) = true := decide_eq_true c52
                                   clear c52
                                   by_cases c53 : (rd x6_3 x15_6) = 1
                                   · rw [if_pos c53] at H
                                     have c53b0 : ((rd x6_3 x15_6) == 1) = true := beq_iff_eq.mpr c53
                                     have c53b1 : ((rd x6_3 x15_6) != 1) = false := bne_eq_false_iff_eq.mpr c53
                                     clear c53
                                     by_cases c54 : x11_4 = true
                                     · subst c54
                                       have H1 : ((purflingref04_reached.f k6 l0 x15_6).bind fun t288 => (if t288 = true then (purflingref04_Check.l5 k6 l0 x6_3 x10_36 true (wrap64 (x15_6 + 1))) else (some (x15_6, 41)))) = some (r1, r2) := by rw [if_pos rfl] at H; exact H
                                       clear H
                                       have H := H1
                                       clear H1
                                       replace H := Option.bind_eq_some_iff.mp H
                                       obtain ⟨t288, A550, H⟩ := H
                                       replace H : (if t288 = true then (purflingref04_Check.l5 k6 l0 x6_3 x10_36 true (wrap64 (x15_6 + 1))) else (some (x15_6, 41))) = some (r1, r2) := H
                                       have A55 := Aside0.mk A550
                                       clear A550
                                       by_cases c56 : t288 = true
                                       · subst c56
                                         have H1 : (purflingref04_Check.l5 k6 l0 x6_3 x10_36 true (wrap64 (x15_6 + 1))) = some (r1, r2) := by rw [if_pos rfl] at H; exact H
                                         clear H
                                         have H := H1
                                         clear H1
                                         have H' := Aside0.mk H
                                         clear H
                                         obtain ⟨Ao57, co57, eo57⟩ := Kd.R_slice HO_6.out
                                         subst eo57
                                         have p287 : 0 ≤ (x15_6 : Int) := of_decide_eq_true (by first | (with_reducible assumption) | assumption)
                                         have q287 : x15_6 < (x6_3.length : Int) := of_decide_eq_true (by first | (with_reducible assumption) | assumption)
                                         obtain ⟨ad287, e287, hx287_0⟩ := Kd.at_int (Kd.R_reads' HO_6.out).2.2 x15_6 p287 q287
                                         cases e287
                                         replace p287 := eq_true p287
                                         replace q287 := eq_true q287
                                         go_wp2_with (first | (go_at_call 41; (with_reducible refine (purflingref04_reached.calls k6 _ _ l0 x15_6 true _ ?side1 ?side2 A55.out).mono ?_); (case side1 => repeat (first | exact (Kd.C_below HR0.out HB.out) | (with_reducible refine Kd.C_alloc ?_ _) | (with_reducible refine Kd.C_drewN ?_ _) | (with_reducible refine Kd.C_drew ?_))); (case side2 => exact HC0.out); rintro e w58 ⟨rfl, hb⟩; have n0_ := Aside0.mk (Kd.R_below (by (with_reducible repeat (first | apply Kd.R_alloc | apply Kd.R_drewN | apply Kd.R_drew)); exact HO_6.out) hb); have n1_ := Aside0.mk (Kd.R_below (by (with_reducible repeat (first | apply Kd.R_alloc | apply Kd.R_drewN | apply Kd.R_drew)); exact HO_10.out) hb); have n2_ := Aside0.mk (below_step (by repeat (first | exact HB.out | apply below_alloc | apply pw_below_drewN | apply below_drew1)) hb); clear HO_6; clear HO_10; clear HB; have HO_6 := n0_; have HO_10 := n1_; have HB := n2_; clear n0_ n1_ n2_; (try clear hb); (try clear hb2); (try clear hk); (try clear hi)))
                                         go_roundg k6
                                         case measure => have := HJ1.out; have := HK2.out; have := HK3.out; have := HK4.out; have := HJ36.out; have := HK6.out; omega
                                         case rel => exact ⟨(wrap64 (x15_6 + 1)), (by first | rfl | (simp; done) | (simp [*]; done)), H', ⟨by have := HJ1.out; have := HK2.out; have := HK3.out; have := HK4.out; have := HJ36.out; have := HK6.out; omega⟩, ⟨by (with_reducible repeat (first | apply Kd.R_alloc | apply Kd.R_drewN | apply Kd.R_drew)); exact HO_6.out⟩, ⟨by (with_reducible repeat (first | apply Kd.R_alloc | apply Kd.R_drewN | apply Kd.R_drew)); exact HO_10.out⟩, ⟨by repeat (first | exact HB.out | apply below_alloc | apply pw_below_drewN | apply below_drew1)⟩⟩
                                       · replace c56 := Bool.eq_false_iff.mpr c56
                                         subst c56
                                         have H1 : (some (x15_6, 41)) = some (r1, r2) := by rw [if_neg (show ¬ (false = true) by decide)] at H; exact H
                                         clear H
                                         have H := H1
                                         clear H1
                                         simp only [Option.some.injEq, Prod.mk.injEq] at H
                                         obtain ⟨rfl, rfl⟩ := H
                                         obtain ⟨Ao59, co59, eo59⟩ := Kd.R_slice HO_6.out
                                         subst eo59
                                         have p287 : 0 ≤ (x15_6 : Int) := of_decide_eq_true (by first | (with_reducible assumption) | assumption)
                                         have q287 : x15_6 < (x6_3.length : Int) := of_decide_eq_true (by first | (with_reducible assumption) | assumption)
                                         obtain ⟨ad287, e287, hx287_0⟩ := Kd.at_int (Kd.R_reads' HO_6.out).2.2 x15_6 p287 q287
                                         cases e287
                                         replace p287 := eq_true p287
                                         replace q287 := eq_true q287
                                         go_wp2_with (first | (go_at_call 41; (with_reducible refine (purflingref04_reached.calls k6 _ _ l0 x15_6 false _ ?side1 ?side2 A55.out).mono ?_); (case side1 => repeat (first | exact (Kd.C_below HR0.out HB.out) | (with_reducible refine Kd.C_alloc ?_ _) | (with_reducible refine Kd.C_drewN ?_ _) | (with_reducible refine Kd.C_drew ?_))); (case side2 => exact HC0.out); rintro e w60 ⟨rfl, hb⟩; have n0_ := Aside0.mk (Kd.R_below (by (with_reducible repeat (first | apply Kd.R_alloc | apply Kd.R_drewN | apply Kd.R_drew)); exact HO_6.out) hb); have n1_ := Aside0.mk (Kd.R_below (by (with_reducible repeat (first | apply Kd.R_alloc | apply Kd.R_drewN | apply Kd.R_drew)); exact HO_10.out) hb); have n2_ := Aside0.mk (below_step (by repeat (first | exact HB.out | apply below_alloc | apply pw_below_drewN | apply below_drew1)) hb); clear HO_6; clear HO_10; clear HB; have HO_6 := n0_; have HO_10 := n1_; have HB := n2_; clear n0_ n1_ n2_; (try clear hb); (try clear hb2); (try clear hk); (try clear hi)))
                                         go_ret2
                                         exact ⟨by first | rfl | (simp [errW_none, errW_some] <;> rfl) | (simp [*, errW_none, errW_some] <;> rfl), by repeat (first | exact HB.out | apply below_alloc | apply pw_below_drewN | apply below_drew1)⟩
                                     · replace c54 := Bool.eq_false_iff.mpr c54
                                       subst c54
                                       have H1 : (if x15_6 < (x10_36.length : Int) then (if rdOf false x10_36 x15_6 = true then (purflingref04_Check.l5 k6 l0 x6_3 x10_36 false (wrap64 (x15_6 + 1))) else (some (x15_6, 41))) else (none)) = some (r1, r2) := by rw [if_neg (show ¬ (false = true) by decide)] at H; exact H
                                       clear H
                                       have H := H1
                                       clear H1
                                       by_cases c61 : x15_6 < (x10_36.length : Int)
                                       · rw [if_pos c61] at H
                                         have c61b0 : decide (x15_6 < (x10_36.length : Int)) = true := decide_eq_true c61
                                         clear c61
                                         obtain ⟨bq62, hbq62⟩ : ∃ b_ : Bool, b_ = (rdOf false x10_36 x15_6) := ⟨_, rfl⟩
                                         replace H : (if bq62 = true then (purflingref04_Check.l5 k6 l0 x6_3 x10_36 false (wrap64 (x15_6 + 1))) else (some (x15_6, 41))) = some (r1, r2) := by rw [← hbq62] at H; exact H
                                         have Nbq62 := Aside0.mk hbq62
                                         clear hbq62
                                         by_cases c63 : bq62 = true
                                         · subst c63
                                           have H1 : (purflingref04_Check.l5 k6 l0 x6_3 x10_36 false (wrap64 (x15_6 + 1))) = some (r1, r2) := by rw [if_pos rfl] at H; exact H
                                           clear H
                                           have H := H1
                                           clear H1
                                           have H' := Aside0.mk H
                                           clear H
                                           obtain ⟨Ao64, co64, eo64⟩ := Kd.R_slice HO_6.out
                                           subst eo64
                                           have p287 : 0 ≤ (x15_6 : Int) := of_decide_eq_true (by first | (with_reducible assumption) | assumption)
                                           have q287 : x15_6 < (x6_3.length : Int) := of_decide_eq_true (by first | (with_reducible assumption) | assumption)
                                           obtain ⟨ad287, e287, hx287_0⟩ := Kd.at_int (Kd.R_reads' HO_6.out).2.2 x15_6 p287 q287
                                           cases e287
                                           replace p287 := eq_true p287
                                           replace q287 := eq_true q287
                                           obtain ⟨Ao65, co65, eo65⟩ := Kd.R_slice HO_10.out
                                           subst eo65
                                           have p289 : 0 ≤ (x15_6 : Int) := of_decide_eq_true (by first | (with_reducible assumption) | assumption)
                                           have q289 : x15_6 < (x10_36.length : Int) := of_decide_eq_true (by first | (with_reducible assumption) | assumption)
                                           obtain ⟨ad289, e289, hx289_0⟩ := Kd.at_bool (Kd.R_reads' HO_10.out).2.2 x15_6 p289 q289
                                           (try rw [← Nbq62.out] at hx289_0)
                                           cases e289
                                           replace p289 := eq_true p289
                                           replace q289 := eq_true q289
                                           go_wp2
                                           go_roundg k6
                                           case measure => have := HJ1.out; have := HK2.out; have := HK3.out; have := HK4.out; have := HJ36.out; have := HK6.out; omega
                                           case rel => exact ⟨(wrap64 (x15_6 + 1)), (by first | rfl | (simp; done) | (simp [*]; done)), H', ⟨by have := HJ1.out; have := HK2.out; have := HK3.out; have := HK4.out; have := HJ36.out; have := HK6.out; omega⟩, ⟨by (with_reducible repeat (first | apply Kd.R_alloc | apply Kd.R_drewN | apply Kd.R_drew)); exact HO_6.out⟩, ⟨by (with_reducible repeat (first | apply Kd.R_alloc | apply Kd.R_drewN | apply Kd.R_drew)); exact HO_10.out⟩, ⟨by repeat (first | exact HB.out | apply below_alloc | apply pw_below_drewN | apply below_drew1)⟩⟩
                                         · replace c63 := Bool.eq_false_iff.mpr c63
                                           subst c63
                                           have H1 : (some (x15_6, 41)) = some (r1, r2) := by rw [if_neg (show ¬ (false = true) by decide)] at H; exact H
                                           clear H
                                           have H := H1
                                           clear H1
                                           simp only [Option.some.injEq, Prod.mk.injEq] at H
                                           obtain ⟨rfl, rfl⟩ := H
                                           obtain ⟨Ao66, co66, eo66⟩ := Kd.R_slice HO_6.out
                                           subst eo66
                                           have p287 : 0 ≤ (x15_6 : Int) := of_decide_eq_true (by first | (with_reducible assumption) | assumption)
                                           have q287 : x15_6 < (x6_3.length : Int) := of_decide_eq_true (by first | (with_reducible assumption) | assumption)
                                           obtain ⟨ad287, e287, hx287_0⟩ := Kd.at_int (Kd.R_reads' HO_6.out).2.2 x15_6 p287 q287
                                           cases e287
                                           replace p287 := eq_true p287
                                           replace q287 := eq_true q287
                                           obtain ⟨Ao67, co67, eo67⟩ := Kd.R_slice HO_10.out
                                           subst eo67
                                           have p289 : 0 ≤ (x15_6 : Int) := of_decide_eq_true (by first | (with_reducible assumption) | assumption)
                                           have q289 : x15_6 < (x10_36.length : Int) := of_decide_eq_true (by first | (with_reducible assumption) | assumption)
                                           obtain ⟨ad289, e289, hx289_0⟩ := Kd.at_bool (Kd.R_reads' HO_10.out).2.2 x15_6 p289 q289
                                           (try rw [← Nbq62.out] at hx289_0)
                                           cases e289
                                           replace p289 := eq_true p289
                                           replace q289 := eq_true q289
                                           go_wp2
                                           go_ret2
                                           exact ⟨by first | rfl | (simp [errW_none, errW_some] <;> rfl) | (simp [*, errW_none, errW_some] <;> rfl), by repeat (first | exact HB.out | apply below_alloc | apply pw_below_drewN | apply below_drew1)⟩
                                       · rw [if_neg c61] at H
                                         exact absurd H (by simp)
                                   · rw [if_neg c53] at H
                                     have c53b0 : ((rd x6_3 x15_6) == 1) = false := beq_eq_false_iff_ne.mpr c53
                                     have c53b1 : ((rd x6_3 x15_6) != 1) = true := bne_iff_ne.mpr c53
                                     simp only [Option.some.injEq, Prod.mk.injEq] at H
                                     obtain ⟨rfl, rfl⟩ := H
                                     obtain ⟨Ao68, co68, eo68⟩ := Kd.R_slice HO_6.out
                                     subst eo68
                                     have p287 : 0 ≤ (x15_6 : Int) := of_decide_eq_true (by first | (with_reducible assumption) | assumption)
                                     have q287 : x15_6 < (x6_3.length : Int) := of_decide_eq_true (by first | (with_reducible assumption) | assumption)
                                     obtain ⟨ad287, e287, hx287_0⟩ := Kd.at_int (Kd.R_reads' HO_6.out).2.2 x15_6 p287 q287
                                     cases e287
                                     replace p287 := eq_true p287
                                     replace q287 := eq_true q287
                                     go_wp2
                                     go_ret2
                                     exact ⟨by first | rfl | (simp [errW_none, errW_some] <;> rfl) | (simp [*, errW_none, errW_some] <;> rfl), by repeat (first | exact HB.out | apply below_alloc | apply pw_below_drewN | apply below_drew1)⟩
                                 · rw [if_neg c52] at H
                                   exact absurd H (by simp)
                               · rw [if_neg c51] at H
                                 exact absurd H (by simp)
                             · rw [if_neg c50] at H
                               have c50b0 : decide (x15_6 < (l0.length : Int)) = false := decide_eq_false c50
                               clear c50
                               replace H := Option.bind_eq_some_iff.mp H
                               obtain ⟨t290, A690, H⟩ := H
                               replace H : (purflingref04_Check.l6 k6 l0 t290 0) = some (r1, r2) := H
                               have A69 := Aside0.mk A690
                               clear A690
                               have H' := Aside0.mk H
                               clear H
                               go_wp2_with (first | ((with_reducible refine gate_callee (f := 42) rfl ?_); refine goesL_ (some 148) rfl rfl Try.func42 (by kernel_rfl) rfl #[.slice A0 l0.length c0] rfl (by (try simp only [List.map_toArray, List.map_cons, List.map_nil]); first | done | rfl) ?_; (with_reducible refine (purflingref04_depths.calls k6 _ _ l0 t290 _ ?side1 ?side2 A69.out).mono ?_); (case side1 => repeat (first | exact (Kd.C_below HR0.out HB.out) | (with_reducible refine Kd.C_alloc ?_ _) | (with_reducible refine Kd.C_drewN ?_ _) | (with_reducible refine Kd.C_drew ?_))); (case side2 => exact HC0.out); rintro e w70 ⟨v291, rfl, ho0, hb⟩; refine ⟨_, rfl, ?_⟩; have n0_ := Aside0.mk (Kd.R_elder' (by (with_reducible repeat (first | apply Kd.R_alloc | apply Kd.R_drewN | apply Kd.R_drew)); exact HO_6.out) (Kd.R_base ho0) hb); have n1_ := Aside0.mk (Kd.R_below (by (with_reducible repeat (first | apply Kd.R_alloc | apply Kd.R_drewN | apply Kd.R_drew)); exact HO_10.out) hb); have n2_ := Aside0.mk (Kd.R_lower (Kd.R_new' ho0 (Kd.R_lt (by (with_reducible repeat (first | apply Kd.R_alloc | apply Kd.R_drewN | apply Kd.R_drew)); exact HO_6.out))) (below_size (by repeat (first | exact HB.out | apply below_alloc | apply pw_below_drewN | apply below_drew1)))); have n3_ := Aside0.mk (below_step (by repeat (first | exact HB.out | apply below_alloc | apply pw_below_drewN | apply below_drew1)) hb); clear HO_6; clear HO_10; clear HB; have HO_6 := n0_; have HO_10 := n1_; have HO292 := n2_; have HB := n3_; clear n0_ n1_ n2_ n3_; (try clear hb); (try clear hb2); (try clear hk); (try clear hi); (try clear ho0)))
                               go_loopg [17] k6 (fun kq v17 w' => ∃ (x17_7 : Int), v17 = .int .i64 x17_7 ∧ Aside0 (purflingref04_Check.l6 kq l0 t290 x17_7 = some (r1, r2)) ∧ Aside0 (kq ≤ k6) ∧ Aside0 (Kd.R (Kd.int .i64) 3 w' w.heap.size (fun _ => True) v291 t290) ∧ Aside0 (Below w.heap.size w w'))
                               case atStart => exact ⟨(0), (by first | rfl | (simp; done) | (simp [*]; done)), H', ⟨Nat.le_refl _⟩, ⟨by (with_reducible repeat (first | apply Kd.R_alloc | apply Kd.R_drewN | apply Kd.R_drew)); exact Kd.R_mono HO292.out (fun _ hk => trivial)⟩, ⟨by repeat (first | exact HB.out | apply below_alloc | apply pw_below_drewN | apply below_drew1)⟩⟩
                               case round =>
                                clear H'
                                try clear c1
                                try clear c2
                                try clear p2
                                try clear q2
                                try clear hx2
                                try clear hf2
                                try clear c3
                                try clear c3b0
                                try clear c3b1
                                try clear c4
                                try clear p4
                                try clear q4
                                try clear hx4
                                try clear hf4
                                try clear c5
                                try clear c5b0
                                try clear c6
                                try clear c6b0
                                try clear p6
                                try clear q6
                                try clear c8
                                try clear c11
                                try clear c11b0
                                try clear c11b1
                                try clear c12
                                try clear c12b0
                                try clear c12b1
                                try clear c15
                                try clear c15b0
                                try clear c16
                                try clear c16b0
                                try clear c17
                                try clear c17b0
                                try clear c18
                                try clear c18b0
                                try clear c19
                                try clear c19b0
                                try clear c20
                                try clear c20b0
                                try clear c21
                                try clear c21b0
                                try clear c22
                                try clear c22b0
                                try clear c23
                                try clear c23b0
                                try clear p24
                                try clear q24
                                try clear hx24
                                try clear hf24
                                try clear p26
                                try clear q26
                                try clear hx26
                                try clear c27
                                try clear p27
                                try clear q27
                                try clear hx27
                                try clear c28
                                try clear c28b0
                                try clear c28b1
                                try clear p28
                                try clear q28
                                try clear hx28
                                try clear c29
                                try clear c29b0
                                try clear c29b1
                                try clear c32
                                try clear c32b0
                                try clear c33
                                try clear c34
                                try clear c34b0
                                try clear c35
                                try clear c35b0
                                try clear c38
                                try clear c40
                                try clear c41
                                try clear c41b0
                                try clear c42
                                try clear c42b0
                                try clear c43
                                try clear c43b0
                                try clear c44
                                try clear c44b0
                                try clear p45
                                try clear q45
                                try clear hx45
                                try clear hf45
                                try clear c50
                                try clear c50b0
                                try clear c51
                                try clear c51b0
                                try clear c52
                                try clear c52b0
                                try clear c53
                                try clear c53b0
                                try clear c53b1
                                try clear c54
                                try clear c56
                                try clear c61
                                try clear c61b0
                                try clear q62
                                try clear c63
                                try clear p64
                                try clear hx24_0
                                try clear hx268_0
                                try clear hx268_1
                                try clear hx268_10
                                try clear hx268_11
                                try clear hx268_12
                                try clear hx268_13
                                try clear hx268_14
                                try clear hx268_15
                                try clear hx268_16
                                try clear hx268_17
                                try clear hx268_18
                                try clear hx268_19
                                try clear hx268_2
                                try clear hx268_20
                                try clear hx268_21
                                try clear hx268_22
                                try clear hx268_23
                                try clear hx268_24
                                try clear hx268_25
                                try clear hx268_26
                                try clear hx268_27
                                try clear hx268_28
                                try clear hx268_29
                                try clear hx268_3
                                try clear hx268_30
                                try clear hx268_31
                                try clear hx268_32
                                try clear hx268_33
                                try clear hx268_4
                                try clear hx268_5
                                try clear hx268_6
                                try clear hx268_7
                                try clear hx268_8
                                try clear hx268_9
                                try clear hx273_0
                                try clear hx273_1
                                try clear hx273_22
                                try clear hx273_31
                                try clear hx274_0
                                try clear hx274_1
                                try clear hx274_22
                                try clear hx274_31
                                try clear hx275_0
                                try clear hx276_0
                                try clear hx281_0
                                try clear hx285_0
                                try clear hx287_0
                                try clear hx289_0
                                try clear hx45_0
                                try clear p2
                                try clear p24
                                try clear p26
                                try clear p268
                                try clear p27
                                try clear p273
                                try clear p274
                                try clear p275
                                try clear p276
                                try clear p28
                                try clear p281
                                try clear p285
                                try clear p287
                                try clear p289
                                try clear p4
                                try clear p45
                                try clear p6
                                try clear q2
                                try clear q24
                                try clear q26
                                try clear q268
                                try clear q27
                                try clear q273
                                try clear q274
                                try clear q275
                                try clear q276
                                try clear q28
                                try clear q281
                                try clear q285
                                try clear q287
                                try clear q289
                                try clear q4
                                try clear q45
                                obtain ⟨x17_7, rfl, HA, HK7, HO_16, HB⟩ := hrel
                                cases gk with
                                | zero => exact absurd HA.out (by simp [purflingref04_Check.l6])
                                | succ k7 =>
                                 have H := HA.out
                                 clear HA
                                 simp only [purflingref04_Check.l6] at H
                                 by_cases c71 : x17_7 < (l0.length : Int)
                                 · rw [if_pos c71] at H
                                   have c71b0 : decide (x17_7 < (l0.length : Int)) = true := decide_eq_true c71
                                   clear c71
                                   by_cases c72 : 0 ≤ x17_7
                                   · rw [if_pos c72] at H
                                     have c72b0 : decide (0 ≤ x17_7) = true := decide_eq_true c72
                                     clear c72
                                     by_cases c73 : x17_7 < (t290.length : Int)
                                     · rw [if_pos c73] at H
                                       have c73b0 : decide (x17_7 < (t290.length : Int)) = true := decide_eq_true c73
                                       clear c73
                                       by_cases c74 : (rd t290 x17_7) > 64
                                       · rw [if_pos c74] at H
                                         have c74b0 : decide (64 < (rd t290 x17_7)) = true := decide_eq_true c74
                                         clear c74
                                         simp only [Option.some.injEq, Prod.mk.injEq] at H
                                         obtain ⟨rfl, rfl⟩ := H
                                         obtain ⟨Ao75, co75, eo75⟩ := Kd.R_slice HO_16.out
                                         subst eo75
                                         have p293 : 0 ≤ (x17_7 : Int) := of_decide_eq_true (by first | (with_reducible assumption) | assumption)
                                         have q293 : x17_7 < (t290.length : Int) := of_decide_eq_true (by first | (with_reducible assumption) | assumption)
                                         obtain ⟨ad293, e293, hx293_0⟩ := Kd.at_int (Kd.R_reads' HO_16.out).2.2 x17_7 p293 q293
                                         cases e293
                                         replace p293 := eq_true p293
                                         replace q293 := eq_true q293
                                         go_wp2
                                         go_ret2
                                         exact ⟨by first | rfl | (simp [errW_none, errW_some] <;> rfl) | (simp [*, errW_none, errW_some] <;> rfl), by repeat (first | exact HB.out | apply below_alloc | apply pw_below_drewN | apply below_drew1)⟩
                                       · rw [if_neg c74] at H
                                         have c74b0 : decide (64 < (rd t290 x17_7)) = false := decide_eq_false c74
                                         clear c74
                                         have H' := Aside0.mk H
                                         clear H
                                         obtain ⟨Ao76, co76, eo76⟩ := Kd.R_slice HO_16.out
                                         subst eo76
                                         have p293 : 0 ≤ (x17_7 : Int) := of_decide_eq_true (by first | (with_reducible assumption) | assumption)
                                         have q293 : x17_7 < (t290.length : Int) := of_decide_eq_true (by first | (with_reducible assumption) | assumption)
                                         obtain ⟨ad293, e293, hx293_0⟩ := Kd.at_int (Kd.R_reads' HO_16.out).2.2 x17_7 p293 q293
                                         cases e293
                                         replace p293 := eq_true p293
                                         replace q293 := eq_true q293
                                         go_wp2
                                         go_roundg k7
                                         case measure => have := HJ1.out; have := HK2.out; have := HK3.out; have := HK4.out; have := HJ36.out; have := HK6.out; have := HK7.out; omega
                                         case rel => exact ⟨(wrap64 (x17_7 + 1)), (by first | rfl | (simp; done) | (simp [*]; done)), H', ⟨by have := HJ1.out; have := HK2.out; have := HK3.out; have := HK4.out; have := HJ36.out; have := HK6.out; have := HK7.out; omega⟩, ⟨by (with_reducible repeat (first | apply Kd.R_alloc | apply Kd.R_drewN | apply Kd.R_drew)); exact HO_16.out⟩, ⟨by repeat (first | exact HB.out | apply below_alloc | apply pw_below_drewN | apply below_drew1)⟩⟩
                                     · rw [if_neg c73] at H
                                       exact absurd H (by simp)
                                   · rw [if_neg c72] at H
                                     exact absurd H (by simp)
                                 · rw [if_neg c71] at H
                                   have c71b0 : decide (x17_7 < (l0.length : Int)) = false := decide_eq_false c71
                                   clear c71
                                   simp only [Option.some.injEq, Prod.mk.injEq] at H
                                   obtain ⟨rfl, rfl⟩ := H
                                   go_wp2
                                   go_ret2
                                   exact ⟨by first | rfl | (simp [errW_none, errW_some] <;> rfl) | (simp [*, errW_none, errW_some] <;> rfl), by repeat (first | exact HB.out | apply below_alloc | apply pw_below_drewN | apply below_drew1)⟩
                   · rw [if_neg c29] at H
                     exact absurd H (by simp)
                 · rw [if_neg c28] at H
                   exact absurd H (by simp)
           · rw [if_neg c12] at H
             exact absurd H (by simp)
         · rw [if_neg c11] at H
           exact absurd H (by simp)
end Go.Proofs.Ytdmnaehgngpikaa.K
