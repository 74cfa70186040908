-- PRINTED by print.py (a twelfth state) out of the translation. Not trusted: Lean checks it.
import Derived.Test.YtjhpkikgajgdmaaK0
namespace Go.Proofs.Ytjhpkikgajgdmaa.K
open Go.RowKit Go.Proofs.YtjhpkikgajgdmaaW.PrintWords Go.Proofs.YtjhpkikgajgdmaaW.PrintLast Go.Proofs.YtjhpkikgajgdmaaW.PrintMore
attribute [local go_sem] max2_int min2_int max_two min_two max_three min_three max_four min_four   -- for this text's walks alone
set_option linter.unusedVariables false
set_option linter.unusedSimpArgs false
/-! ### purflingref04_order: function 29 -/
mutual
def purflingref04_order.l0 : Nat → List (S43) → Int → List Int → Int → Option (List Int)
 | 0, _, _, _, _ => none
 | k + 1, x0, x1, x2, x7 => if 0 ≤ x1 then (if x1 < (x0.length : Int) then (if x7 < (((rd_T43 x0 x1).f1).length : Int) then (if 0 ≤ x7 then ((purflingref04_order.f k x0 (rd ((rd_T43 x0 x1).f1) x7) x2).bind fun t111 => (purflingref04_order.l0 k x0 x1 t111 (wrap64 (x7 + 1)))) else (none)) else (some x2)) else (none)) else (none)
def purflingref04_order.f : Nat → List (S43) → Int → List Int → Option (List Int)
 | 0, _, _, _ => none
 | k + 1, l0, a1, l2 => if (l2.length : Int) > (l0.length : Int) then (some l2) else (if l2.length < 17592186044416 then (purflingref04_order.l0 k l0 a1 (l2 ++ [a1]) 0) else (none))
end
set_option maxHeartbeats 8000000 in
set_option maxRecDepth 100000 in
theorem purflingref04_order.calls (k : Nat) : ∀ (A0 : Option Addr) (c0 : Nat) (l0 : List (S43)) (a1 : Int) (P2_ : Nat → Prop) (u9000_ : Value) (l2 : List Int) (r : List Int) (w0 w : World) (hB : Below w0.heap.size w0 w) (hr0 : ∀ W_, Kept w W_ (fun k_ => P2_ k_) → Kd.C k43 W_ A0 l0.length l0) (hc0 : l0.length ≤ c0) (ho2 : Kd.R (Kd.int .i64) 3 w w0.heap.size P2_ u9000_ l2) (h : purflingref04_order.f k l0 a1 l2 = some r),
 Calls Try.prog 29 #[.slice A0 l0.length c0, .int .i64 a1, u9000_] w fun e w' => ∃ v0_ : Value, e = .returned (v0_) ∧ Kd.R (Kd.int .i64) 3 w' w0.heap.size (fun k_ => (P2_ k_ ∨ w.heap.size ≤ k_)) v0_ r ∧ Below w0.heap.size w0 w' ∧ Kept w w' (fun k_ => P2_ k_) := by
 induction k using Nat.strongRecOn with
 | _ k ih =>
 intro A0 c0 l0 a1 P2_ u9000_ l2 r w0 w hB hr0 hc0 ho2 h
 cases k with
 | zero => exact absurd h (by simp [purflingref04_order.f])
 | succ k =>
 simp only [purflingref04_order.f] at h
 have HR0 := Aside0.mk hr0
 have HC0 := Aside0.mk hc0
 clear hr0 hc0
 have HO2 := Aside0.mk (show Kd.R (Kd.int .i64) 3 w w0.heap.size (fun k_ => (P2_ k_ ∨ w.heap.size ≤ k_)) u9000_ l2 from Kd.R_mono ho2 (fun k_ hk => (.inl hk)))
 have HK := Aside0.mk (Kept.refl w (fun k_ => P2_ k_))
 have HW0 := Aside0.mk hB.size
 have HB := Aside0.mk hB
 clear hB
 have H : (if (l2.length : Int) > (l0.length : Int) then (some l2) else (if l2.length < 17592186044416 then (purflingref04_order.l0 k l0 a1 (l2 ++ [a1]) 0) else (none))) = some r := h
 clear h
 by_cases c4 : (l2.length : Int) > (l0.length : Int)
 · rw [if_pos c4] at H
   have c4b0 : decide ((l0.length : Int) < (l2.length : Int)) = true := decide_eq_true c4
   have c4b1 : decide (l0.length < l2.length) = true := decide_eq_true (Int.ofNat_lt.mp c4)
   clear c4
   obtain rfl := Option.some.inj H
   obtain ⟨Ao5, co5, eo5⟩ := Kd.R_slice HO2.out
   subst eo5
   go_enter Try.func29, Try.ntmps29
   go_wp2
   go_ret
   exact ⟨_, by first | rfl | (simp [errW_none, errW_some] <;> rfl) | (simp [*, errW_none, errW_some] <;> rfl), by (with_reducible repeat (first | apply Kd.R_alloc | apply Kd.R_drewN | apply Kd.R_drew)); exact HO2.out, by repeat (first | exact HB.out | apply below_alloc | apply pw_below_drewN | apply below_drew1), by repeat (first | (with_reducible first | exact HK.out | apply Kept.alloc | apply Kept.drewN | apply Kept.drew) | exact HK.out)⟩
 · rw [if_neg c4] at H
   have c4b0 : decide ((l0.length : Int) < (l2.length : Int)) = false := decide_eq_false c4
   have c4b1 : decide (l0.length < l2.length) = false := decide_eq_false (fun h => c4 (Int.ofNat_lt.mpr h))
   clear c4
   by_cases c6 : l2.length < 17592186044416
   · rw [if_pos c6] at H
     have LMc6 := Aside0.mk c6
     clear c6
     obtain ⟨y105, hy105⟩ : ∃ y_ : List Int, y_ = (l2 ++ [a1]) := ⟨_, rfl⟩
     replace H : (purflingref04_order.l0 k l0 a1 y105 0) = some r := by first | (rw [hy105]; with_reducible exact H) | (have H2_ := (Option.bind_some _ _).symm.trans H; rw [hy105]; with_reducible exact H2_) | (have H2_ := (Option.bind_some _ _).symm.trans H; with_reducible exact H2_) | with_reducible exact H | (rw [hy105]; exact H) | exact H
     have Ny105 := Aside0.mk hy105
     clear hy105
     have H' := Aside0.mk H
     clear H
     obtain ⟨Ao7, co7, eo7⟩ := Kd.R_slice HO2.out
     subst eo7
     go_enter Try.func29, Try.ntmps29
     go_wp2_with (first | ((with_reducible refine gate_builtin (b := .append) (xs := #[.tmp 14, .tmp 16]) rfl ?_); at_builtin; refine Kd.R_append (Kd.int .i64) (w0 := w0) w0.heap.size rfl (.tmp 14) (.tmp 16) 30 3 (.int .i64 0) 8 rfl Try.underlying30 info3 rfl (by decide) (by omega) (.slice Ao7 l2.length co7) l2 a1 [.int .i64 a1] (fun k_ => (P2_ k_ ∨ w.heap.size ≤ k_)) (fun _ => False) rfl rfl ?aP (fun _ hk => hk.elim) ?aF ?aO ?aB ?aS ?aL ?_; (case aP => exact rfl); (case aB => exact (by repeat (first | exact HB.out | apply below_alloc | apply pw_below_drewN | apply below_drew1))); (case aF => exact (fun k_ hk => (.inr (Nat.le_trans (by first | exact HK.out.1 | exact (show Kept w _ (fun k_ => P2_ k_) from by repeat (first | (with_reducible first | exact HK.out | apply Kept.alloc | apply Kept.drewN | apply Kept.drew) | exact HK.out)).1) hk)))); (case aO => exact (by (with_reducible repeat (first | apply Kd.R_alloc | apply Kd.R_drewN | apply Kd.R_drew)); exact HO2.out)); (case aS => exact (below_size (by repeat (first | exact HB.out | apply below_alloc | apply pw_below_drewN | apply below_drew1)))); (case aL => have := LMc6.out; omega); intro v106 w8 ho hb hg hat; rw [← Ny105.out] at ho; have n0_ := Aside0.mk (hb); have n1_ := Aside0.mk (Kept.of_grown (S := (fun k_ => P2_ k_)) hg (by repeat (first | (with_reducible first | exact HK.out | apply Kept.alloc | apply Kept.drewN | apply Kept.drew) | exact HK.out)) (fun k_ e_ => (HO2.out.1 k_ e_))); have n2_ := Aside0.mk (ho); clear HB; clear HK; clear HO2; have HB := n0_; have HK := n1_; have HO107 := n2_; clear n0_ n1_ n2_; clear ho hb hg hat))
     go_loopg [2, 7] k (fun kq v2 v7 w' => ∃ (x2_1 : List Int) (x7_1 : Int), v7 = .int .i64 x7_1 ∧ Aside0 (purflingref04_order.l0 kq l0 a1 x2_1 x7_1 = some r) ∧ Aside0 (kq ≤ k) ∧ Aside0 (Kd.R (Kd.int .i64) 3 w' w0.heap.size (fun k_ => (P2_ k_ ∨ w.heap.size ≤ k_)) v2 x2_1) ∧ Aside0 (Kept w w' (fun k_ => P2_ k_)) ∧ Aside0 (Below w0.heap.size w0 w'))
     case atStart => exact ⟨(y105), (0), (by first | rfl | (simp; done) | (simp [*]; done)), H', ⟨Nat.le_refl _⟩, ⟨by (with_reducible repeat (first | apply Kd.R_alloc | apply Kd.R_drewN | apply Kd.R_drew)); exact HO107.out⟩, ⟨by repeat (first | (with_reducible first | exact HK.out | apply Kept.alloc | apply Kept.drewN | apply Kept.drew) | exact HK.out)⟩, ⟨by repeat (first | exact HB.out | apply below_alloc | apply pw_below_drewN | apply below_drew1)⟩⟩
     case round =>
      clear H'
      try clear c2
      try clear p2
      try clear c4
      try clear c4b0
      try clear c4b1
      try clear c6
      obtain ⟨x2_1, x7_1, rfl, HA, HK1, HO_2, HK, HB⟩ := hrel
      cases gk with
      | zero => exact absurd HA.out (by simp [purflingref04_order.l0])
      | succ k1 =>
       have H := HA.out
       clear HA
       simp only [purflingref04_order.l0] at H
       by_cases c9 : 0 ≤ a1
       · rw [if_pos c9] at H
         have c9b0 : decide (0 ≤ a1) = true := decide_eq_true c9
         clear c9
         by_cases c10 : a1 < (l0.length : Int)
         · rw [if_pos c10] at H
           have c10b0 : decide (a1 < (l0.length : Int)) = true := decide_eq_true c10
           clear c10
           by_cases c11 : x7_1 < (((rd_T43 l0 a1).f1).length : Int)
           · rw [if_pos c11] at H
             have c11b0 : decide (x7_1 < (((rd_T43 l0 a1).f1).length : Int)) = true := decide_eq_true c11
             clear c11
             by_cases c12 : 0 ≤ x7_1
             · rw [if_pos c12] at H
               have c12b0 : decide (0 ≤ x7_1) = true := decide_eq_true c12
               clear c12
               replace H := Option.bind_eq_some_iff.mp H
               obtain ⟨t111, A130, H⟩ := H
               replace H : (purflingref04_order.l0 k1 l0 a1 t111 (wrap64 (x7_1 + 1))) = some r := H
               have A13 := Aside0.mk A130
               clear A130
               have H' := Aside0.mk H
               clear H
               have p108 : 0 ≤ (a1 : Int) := of_decide_eq_true (by first | (with_reducible assumption) | assumption)
               have q108 : a1 < (l0.length : Int) := of_decide_eq_true (by first | (with_reducible assumption) | assumption)
               obtain ⟨ad108, A108_1, c108_1, A108_31, c108_31, e108, hx108_0, hx108_1, hx108_2, hx108_3, hx108_4, hx108_5, hx108_6, hx108_7, hx108_8, hx108_9, hx108_10, hx108_11, hx108_12, hx108_13, hx108_14, hx108_15, hx108_16, hx108_17, hx108_18, hx108_19, hx108_20, hx108_21, hx108_22, hx108_23, hx108_24, hx108_25, hx108_26, hx108_27, hx108_28, hx108_29, hx108_30, hx108_31, hx108_32, hx108_33, hl108_1, hi108_1, hl108_31, hi108_31⟩ := at_T43 (Kd.C_kept_now HR0.out HK.out) a1 p108 q108
               cases e108
               have HR108_1 := Aside0.mk hi108_1
               have HC108_1 := Aside0.mk hl108_1
               clear hi108_1 hl108_1
               have HR108_31 := Aside0.mk hi108_31
               have HC108_31 := Aside0.mk hl108_31
               clear hi108_31 hl108_31
               replace p108 := eq_true p108
               replace q108 := eq_true q108
               have p109 : 0 ≤ (a1 : Int) := of_decide_eq_true (by first | (with_reducible assumption) | assumption)
               have q109 : a1 < (l0.length : Int) := of_decide_eq_true (by first | (with_reducible assumption) | assumption)
               obtain ⟨ad109, A109_1, c109_1, A109_31, c109_31, e109, hx109_0, hx109_1, hx109_2, hx109_3, hx109_4, hx109_5, hx109_6, hx109_7, hx109_8, hx109_9, hx109_10, hx109_11, hx109_12, hx109_13, hx109_14, hx109_15, hx109_16, hx109_17, hx109_18, hx109_19, hx109_20, hx109_21, hx109_22, hx109_23, hx109_24, hx109_25, hx109_26, hx109_27, hx109_28, hx109_29, hx109_30, hx109_31, hx109_32, hx109_33, hl109_1, hi109_1, hl109_31, hi109_31⟩ := at_T43 (Kd.C_kept_now HR0.out HK.out) a1 p109 q109
               obtain rfl : ad108 = ad109 := (by injection e109)
               have HR109_1 := Aside0.mk hi109_1
               have HC109_1 := Aside0.mk hl109_1
               clear hi109_1 hl109_1
               have HR109_31 := Aside0.mk hi109_31
               have HC109_31 := Aside0.mk hl109_31
               clear hi109_31 hl109_31
               replace p109 := eq_true p109
               replace q109 := eq_true q109
               have ea_ := Option.some.inj (hx108_1.symm.trans hx109_1)
               injection ea_ with ea_ en_ ec_
               subst ea_
               subst ec_
               clear en_
               have ea_ := Option.some.inj (hx108_31.symm.trans hx109_31)
               injection ea_ with ea_ en_ ec_
               subst ea_
               subst ec_
               clear en_
               have p110 : 0 ≤ (x7_1 : Int) := of_decide_eq_true (by first | (with_reducible assumption) | assumption)
               have q110 : x7_1 < (((rd_T43 l0 a1).f1).length : Int) := of_decide_eq_true (by first | (with_reducible assumption) | assumption)
               obtain ⟨ad110, e110, hx110_0⟩ := Kd.at_int (by repeat (first | (with_reducible exact HR109_1.out) | (with_reducible refine Kd.C_alloc ?_ _) | (with_reducible refine Kd.C_drewN ?_ _) | (with_reducible refine Kd.C_drew ?_) | exact HR109_1.out)) x7_1 p110 q110
               cases e110
               replace p110 := eq_true p110
               replace q110 := eq_true q110
               obtain ⟨Ao14, co14, eo14⟩ := Kd.R_slice HO_2.out
               subst eo14
               go_wp2_with (first | ((with_reducible refine gate_callee (f := 29) rfl ?_); refine goesL_ (some 38) rfl rfl Try.func29 (by kernel_rfl) rfl #[.slice (some ad108) l0.length c0, .int .i64 (rd ((rd_T43 l0 a1).f1) x7_1), .slice Ao14 x2_1.length co14] rfl (by (try simp only [List.map_toArray, List.map_cons, List.map_nil]); first | done | rfl) ?_; (with_reducible refine (ih k1 (by have := HK1.out; omega) _ _ l0 (rd ((rd_T43 l0 a1).f1) x7_1) (fun k_ => some k_ = (.slice Ao14 x2_1.length co14 : Value).ownBlock) (.slice Ao14 x2_1.length co14) x2_1 t111 w0 _ ?side1 ?side2 ?side3 ?side4 A13.out).mono ?_); (case side1 => repeat (first | exact HB.out | apply below_alloc | apply pw_below_drewN | apply below_drew1)); (case side2 => exact Kd.C_kept_call HR0.out (by repeat (first | (with_reducible first | exact HK.out | apply Kept.alloc | apply Kept.drewN | apply Kept.drew) | exact HK.out)) (fun k_ hs_ => (fun e_ => (HO_2.out.1 k_ e_.symm)) hs_)); (case side3 => exact HC0.out); (case side4 => exact Kd.R_tight rfl HO_2.out); rintro e w15 ⟨v112, rfl, ho0, hb, hkp⟩; refine ⟨_, rfl, ?_⟩; have n0_ := Aside0.mk (Kd.R_mono (ok' := fun k_ => (P2_ k_ ∨ w.heap.size ≤ k_)) ho0 (fun k_ hk_ => Or.elim hk_ (fun hs_ => (HO_2.out.1 k_ (hs_).symm)) (fun hn_ => (.inr (Nat.le_trans (by first | exact HK.out.1 | exact (show Kept w _ (fun k_ => P2_ k_) from by repeat (first | (with_reducible first | exact HK.out | apply Kept.alloc | apply Kept.drewN | apply Kept.drew) | exact HK.out)).1) hn_))))); have n1_ := Aside0.mk (Kept.then_ (S := (fun k_ => P2_ k_)) (by repeat (first | (with_reducible first | exact HK.out | apply Kept.alloc | apply Kept.drewN | apply Kept.drew) | exact HK.out)) hkp (fun k_ hs_ => (fun e_ => (HO_2.out.1 k_ e_.symm)) hs_)); have n2_ := Aside0.mk (hb); clear HK; clear HB; clear HO_2; have HO113 := n0_; have HK := n1_; have HB := n2_; clear n0_ n1_ n2_; (try clear hb); (try clear hkp); (try clear ho0)))
               go_roundg k1
               case measure => have := HK1.out; omega
               case rel => exact ⟨(t111), (wrap64 (x7_1 + 1)), (by first | rfl | (simp; done) | (simp [*]; done)), H', ⟨by have := HK1.out; omega⟩, ⟨by (with_reducible repeat (first | apply Kd.R_alloc | apply Kd.R_drewN | apply Kd.R_drew)); exact HO113.out⟩, ⟨by repeat (first | (with_reducible first | exact HK.out | apply Kept.alloc | apply Kept.drewN | apply Kept.drew) | exact HK.out)⟩, ⟨by repeat (first | exact HB.out | apply below_alloc | apply pw_below_drewN | apply below_drew1)⟩⟩
             · rw [if_neg c12] at H
               exact absurd H (by simp)
           · rw [if_neg c11] at H
             have c11b0 : decide (x7_1 < (((rd_T43 l0 a1).f1).length : Int)) = false := decide_eq_false c11
             clear c11
             obtain rfl := Option.some.inj H
             have p108 : 0 ≤ (a1 : Int) := of_decide_eq_true (by first | (with_reducible assumption) | assumption)
             have q108 : a1 < (l0.length : Int) := of_decide_eq_true (by first | (with_reducible assumption) | assumption)
             obtain ⟨ad108, A108_1, c108_1, A108_31, c108_31, e108, hx108_0, hx108_1, hx108_2, hx108_3, hx108_4, hx108_5, hx108_6, hx108_7, hx108_8, hx108_9, hx108_10, hx108_11, hx108_12, hx108_13, hx108_14, hx108_15, hx108_16, hx108_17, hx108_18, hx108_19, hx108_20, hx108_21, hx108_22, hx108_23, hx108_24, hx108_25, hx108_26, hx108_27, hx108_28, hx108_29, hx108_30, hx108_31, hx108_32, hx108_33, hl108_1, hi108_1, hl108_31, hi108_31⟩ := at_T43 (Kd.C_kept_now HR0.out HK.out) a1 p108 q108
             cases e108
             have HR108_1 := Aside0.mk hi108_1
             have HC108_1 := Aside0.mk hl108_1
             clear hi108_1 hl108_1
             have HR108_31 := Aside0.mk hi108_31
             have HC108_31 := Aside0.mk hl108_31
             clear hi108_31 hl108_31
             replace p108 := eq_true p108
             replace q108 := eq_true q108
             go_wp2
             go_ret
             exact ⟨_, by first | rfl | (simp [errW_none, errW_some] <;> rfl) | (simp [*, errW_none, errW_some] <;> rfl), by (with_reducible repeat (first | apply Kd.R_alloc | apply Kd.R_drewN | apply Kd.R_drew)); exact HO_2.out, by repeat (first | exact HB.out | apply below_alloc | apply pw_below_drewN | apply below_drew1), by repeat (first | (with_reducible first | exact HK.out | apply Kept.alloc | apply Kept.drewN | apply Kept.drew) | exact HK.out)⟩
         · rw [if_neg c10] at H
           exact absurd H (by simp)
       · rw [if_neg c9] at H
         exact absurd H (by simp)
   · rw [if_neg c6] at H
     exact absurd H (by simp)
-- by hand: function 22 (purflingref04_Same)
end Go.Proofs.Ytjhpkikgajgdmaa.K
