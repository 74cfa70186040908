-- PRINTED by print.py (a twelfth state) out of the translation. Not trusted: Lean checks it.
import Derived.Test.YtjhpkikgajgdmaaK0
import Derived.Test.YtjhpkikgajgdmaaK5
import Derived.Test.YtjhpkikgajgdmaaK8
namespace Go.Proofs.Ytjhpkikgajgdmaa.K
open Go.RowKit Go.Proofs.YtjhpkikgajgdmaaW.PrintWords Go.Proofs.YtjhpkikgajgdmaaW.PrintLast Go.Proofs.YtjhpkikgajgdmaaW.PrintMore
attribute [local go_sem] max2_int min2_int max_two min_two max_three min_three max_four min_four   -- for this text's walks alone
set_option linter.unusedVariables false
set_option linter.unusedSimpArgs false
/-! ### purflingref04_depths: function 33 -/
def purflingref04_depths.l0 : Nat → List Int → List Int → List Int → Int → Option (List Int)
 | 0, _, _, _, _ => none
 | k + 1, x3, x4, x5, x6 => if x6 < (x5.length : Int) then (if 0 ≤ x6 then (if (rd x5 x6) = 0 then (if 0 < (x3.length : Int) then (purflingref04_depths.l0 k (x3.set (0 : Int).toNat 1) x4 x5 (wrap64 (x6 + 1))) else (none)) else (if 0 ≤ (rd x5 x6) then (if (rd x5 x6) < (x4.length : Int) then (if 0 ≤ (rd x4 (rd x5 x6)) then (if (rd x4 (rd x5 x6)) < (x3.length : Int) then (if (rd x5 x6) < (x3.length : Int) then (purflingref04_depths.l0 k (x3.set ((rd x5 x6) : Int).toNat (wrap64 ((rd x3 (rd x4 (rd x5 x6))) + 1))) x4 x5 (wrap64 (x6 + 1))) else (none)) else (none)) else (none)) else (none)) else (none))) else (none)) else (some x3)
def purflingref04_depths.f (k : Nat) (l0 : List (S43)) : Option (List Int) := if 0 ≤ (l0.length : Int) then (if ((l0.length : Int) : Int).toNat ≤ 35184372088832 then ((purflingref04_parents.f k l0).bind fun t161 => ((purflingref04_order.f k l0 0 ([] : List Int)).bind fun t164 => (purflingref04_depths.l0 k (List.replicate ((l0.length : Int) : Int).toNat 0) t161 t164 0))) else (none)) else (none)
def purflingref04_depths.T9 : Bool × List (List Nat × List Nat) := (true, [([], []), ([], []), ([], []), ([1, 2], [1, 2]), ([3], [3]), ([], []), ([], []), ([], []), ([], []), ([7, 8], [7, 8]), ([9], [9]), ([6, 10], [6, 10]), ([11], [11]), ([5, 12], [5, 12]), ([13], [13]), ([14], [14]), ([0, 4, 0, 1, 2, 3, 4, 5, 6, 7, 8, 9, 10, 11, 12, 13, 14, 15], [0, 4]), ([16, 15, 0, 1, 2, 3, 4, 5, 6, 7, 8, 9, 10, 11, 12, 13, 14, 15], [15, 16])])
def purflingref04_depths.B9 : List Nat := [0, 0, 0, 6, 14, 0, 0, 0, 0, 384, 896, 1984, 4032, 8160, 16352, 32736, 65535, 131071]
theorem purflingref04_depths.tab9 : rtab .any (opsOf Try.f33 9) = purflingref04_depths.T9 := by kernel_rfl
theorem purflingref04_depths.bits9 : waitsOk purflingref04_depths.T9.2 purflingref04_depths.B9 = true := by kernel_rfl
set_option maxHeartbeats 8000000 in
set_option maxRecDepth 100000 in
theorem purflingref04_depths.calls (k : Nat) (A0 : Option Addr) (c0 : Nat) (l0 : List (S43)) (r : List Int) (w : World) (hr0 : Kd.C k43 w A0 l0.length l0) (hc0 : l0.length ≤ c0) (h : purflingref04_depths.f k l0 = some r) :
 Calls Try.prog 33 #[.slice A0 l0.length c0] w fun e w' => ∃ v0_ : Value, e = .returned (v0_) ∧ Kd.R (Kd.int .i64) 3 w' w.heap.size (fun _ => True) v0_ r ∧ Below w.heap.size w w' := by
 have HR0 := Aside0.mk hr0
 have HC0 := Aside0.mk hc0
 clear hr0 hc0
 have HB := Aside0.mk (Below.refl w.heap.size w)
 have H : (if 0 ≤ (l0.length : Int) then (if ((l0.length : Int) : Int).toNat ≤ 35184372088832 then ((purflingref04_parents.f k l0).bind fun t161 => ((purflingref04_order.f k l0 0 ([] : List Int)).bind fun t164 => (purflingref04_depths.l0 k (List.replicate ((l0.length : Int) : Int).toNat 0) t161 t164 0))) else (none)) else (none)) = some r := h
 clear h
 by_cases c2 : 0 ≤ (l0.length : Int)
 · rw [if_pos c2] at H
   have c2b0 := eq_true c2
   have c2b1 : decide (0 ≤ (l0.length : Int)) = true := decide_eq_true c2
   clear c2
   by_cases c3 : ((l0.length : Int) : Int).toNat ≤ 35184372088832
   · rw [if_pos c3] at H
     have c3b0 := eq_true c3
     have c3b1 : decide (((l0.length : Int) : Int).toNat ≤ 35184372088832) = true := decide_eq_true c3
     clear c3
     obtain ⟨y158, hy158⟩ : ∃ y_ : List Int, y_ = (List.replicate ((l0.length : Int) : Int).toNat 0) := ⟨_, rfl⟩
     replace H : ((purflingref04_parents.f k l0).bind fun t161 => ((purflingref04_order.f k l0 0 ([] : List Int)).bind fun t164 => (purflingref04_depths.l0 k y158 t161 t164 0))) = some r := by first | (rw [hy158]; with_reducible exact H) | (have H2_ := (Option.bind_some _ _).symm.trans H; rw [hy158]; with_reducible exact H2_) | (have H2_ := (Option.bind_some _ _).symm.trans H; with_reducible exact H2_) | with_reducible exact H | (rw [hy158]; exact H) | exact H
     have Ny158 := Aside0.mk hy158
     clear hy158
     replace H := Option.bind_eq_some_iff.mp H
     obtain ⟨t161, A40, H⟩ := H
     replace H : ((purflingref04_order.f k l0 0 ([] : List Int)).bind fun t164 => (purflingref04_depths.l0 k y158 t161 t164 0)) = some r := H
     have A4 := Aside0.mk A40
     clear A40
     replace H := Option.bind_eq_some_iff.mp H
     obtain ⟨t164, A50, H⟩ := H
     replace H : (purflingref04_depths.l0 k y158 t161 t164 0) = some r := H
     have A5 := Aside0.mk A50
     clear A50
     have H' := Aside0.mk H
     clear H
     go_enter Try.func33, Try.ntmps33
     go_wp2_with (first | ((with_reducible refine gate_dst (N := 9) rfl ?_); refine Kd.R_make (Kd.int .i64) _ 3 rfl (N := 9) rfl 30 _ _ rfl (l0.length : Int) rfl rfl Try.underlying30 (.int .i64 0) 8 info3 rfl (by decide) (by omega) 0 (ok := fun _ => True) (okp := fun _ => True) rfl (fun _ hk => hk) trivial (of_decide_eq_true (by first | (with_reducible assumption) | assumption)) (Nat.le_trans (Nat.mul_le_mul_right _ (of_decide_eq_true (by first | (with_reducible assumption) | assumption) : (l0.length : Int).toNat ≤ 35184372088832)) (by omega)) (Below.refl _ _) (Nat.le_refl _) ?_; intro v159 w6 ho7 hb hg_ hnew_; clear hg_ hnew_; (first | rw [← Ny158.out] at ho7 | (simp only [Int.reduceToNat] at ho7; rw [← Ny158.out] at ho7)); have n0_ := Aside0.mk (Kd.R_lower ho7 (below_size (by repeat (first | exact HB.out | apply below_alloc | apply pw_below_drewN | apply below_drew1)))); have n1_ := Aside0.mk (below_step (by repeat (first | exact HB.out | apply below_alloc | apply pw_below_drewN | apply below_drew1)) hb); clear HB; have HO160 := n0_; have HB := n1_; clear n0_ n1_; clear hb ho7) | ((with_reducible refine gate_callee (f := 45) rfl ?_); refine goesL_ (some 11) rfl rfl Try.func45 (by kernel_rfl) rfl #[.slice A0 l0.length c0] rfl (by (try simp only [List.map_toArray, List.map_cons, List.map_nil]); first | done | rfl) ?_; (with_reducible refine (purflingref04_parents.calls k _ _ l0 t161 _ ?side1 ?side2 A4.out).mono ?_); (case side1 => repeat (first | exact (Kd.C_below HR0.out HB.out) | (with_reducible refine Kd.C_alloc ?_ _) | (with_reducible refine Kd.C_drewN ?_ _) | (with_reducible refine Kd.C_drew ?_))); (case side2 => exact HC0.out); rintro e w8 ⟨v162, rfl, ho0, hb⟩; refine ⟨_, rfl, ?_⟩; have n0_ := Aside0.mk (Kd.R_elder' (by (with_reducible repeat (first | apply Kd.R_alloc | apply Kd.R_drewN | apply Kd.R_drew)); exact HO160.out) (Kd.R_base ho0) hb); have n1_ := Aside0.mk (Kd.R_lower (Kd.R_new' ho0 (Kd.R_lt (by (with_reducible repeat (first | apply Kd.R_alloc | apply Kd.R_drewN | apply Kd.R_drew)); exact HO160.out))) (below_size (by repeat (first | exact HB.out | apply below_alloc | apply pw_below_drewN | apply below_drew1)))); have n2_ := Aside0.mk (below_step (by repeat (first | exact HB.out | apply below_alloc | apply pw_below_drewN | apply below_drew1)) hb); clear HO160; clear HB; have HO160 := n0_; have HO163 := n1_; have HB := n2_; clear n0_ n1_ n2_; (try clear hb); (try clear hb2); (try clear hk); (try clear hi); (try clear ho0)) | ((with_reducible refine gate_callee (f := 29) rfl ?_); refine goesL_ (some 13) rfl rfl Try.func29 (by kernel_rfl) rfl #[.slice A0 l0.length c0, .int .i64 0, .slice none 0 0] rfl (by (try simp only [List.map_toArray, List.map_cons, List.map_nil]); first | done | rfl) ?_; (refine (purflingref04_order.calls k _ _ l0 0 (fun k_ => some k_ = (.slice none 0 0 : Value).ownBlock) (.slice none 0 0) ([] : List Int) t164 w _ ?side1 ?side2 ?side3 ?side4 A5.out).mono ?_); (case side1 => repeat (first | exact HB.out | apply below_alloc | apply pw_below_drewN | apply below_drew1)); (case side2 => exact Kd.C_kept_came k43_heap HR0.out (by repeat (first | exact HB.out | apply below_alloc | apply pw_below_drewN | apply below_drew1)) (fun k_ hs_ => (fun e_ => by simp [Value.ownBlock] at e_) hs_)); (case side3 => exact HC0.out); (case side4 => exact Kd.R_nil _ _ _ _ _); rintro e w9 ⟨v165, rfl, ho0, hb, hkp⟩; refine ⟨_, rfl, ?_⟩; have n0_ := Aside0.mk (Kd.R_mono (ok' := fun k_ => some k_ ≠ (v162 : Value).ownBlock ∧ some k_ ≠ (v165 : Value).ownBlock) (Kd.R_keptB (HO160.out) hkp (fun k_ hk_ hs_ => (fun e_ => by simp [Value.ownBlock] at e_) hs_)) (fun k_ hk_ => ⟨hk_.1.2, fun e_ => Or.elim (ho0.1 k_ e_.symm) (fun hs_ => hk_.2.1 hs_) (fun hn_ => Nat.not_le.2 hk_.2.2 hn_)⟩)); have n1_ := Aside0.mk (Kd.R_mono (ok' := fun k_ => some k_ ≠ (v159 : Value).ownBlock ∧ some k_ ≠ (v165 : Value).ownBlock) (Kd.R_keptB (HO163.out) hkp (fun k_ hk_ hs_ => (fun e_ => by simp [Value.ownBlock] at e_) hs_)) (fun k_ hk_ => ⟨hk_.1.2, fun e_ => Or.elim (ho0.1 k_ e_.symm) (fun hs_ => hk_.2.1 hs_) (fun hn_ => Nat.not_le.2 hk_.2.2 hn_)⟩)); have n2_ := Aside0.mk (Kd.R_mono (ok' := fun k_ => some k_ ≠ (v159 : Value).ownBlock ∧ some k_ ≠ (v162 : Value).ownBlock) ho0 (fun k_ hk_ => ⟨Or.elim hk_ (fun hs_ => absurd hs_ (by simp [Value.ownBlock])) (fun hn_ => (Kd.fresh' (Kd.R_lt (by (with_reducible repeat (first | apply Kd.R_alloc | apply Kd.R_drewN | apply Kd.R_drew)); exact HO160.out)) k_ hn_)), Or.elim hk_ (fun hs_ => absurd hs_ (by simp [Value.ownBlock])) (fun hn_ => (Kd.fresh' (Kd.R_lt (by (with_reducible repeat (first | apply Kd.R_alloc | apply Kd.R_drewN | apply Kd.R_drew)); exact HO163.out)) k_ hn_))⟩)); have n3_ := Aside0.mk (hb); clear HO160; clear HO163; clear HB; have HO160 := n0_; have HO163 := n1_; have HO166 := n2_; have HB := n3_; clear n0_ n1_ n2_ n3_; (try clear hb); (try clear hkp); (try clear ho0)))
     go_loopg [6] k (fun kq v6 w' => ∃ (x3_1 : List Int) (x6_1 : Int), v6 = .int .i64 x6_1 ∧ Aside0 (purflingref04_depths.l0 kq x3_1 t161 t164 x6_1 = some r) ∧ Aside0 (kq ≤ k) ∧ Aside0 (Kd.R (Kd.int .i64) 3 w' w.heap.size (fun k_ => some k_ ≠ (v162 : Value).ownBlock ∧ some k_ ≠ (v165 : Value).ownBlock) v159 x3_1) ∧ Aside0 (Kd.R (Kd.int .i64) 3 w' w.heap.size (fun k_ => some k_ ≠ (v159 : Value).ownBlock ∧ some k_ ≠ (v165 : Value).ownBlock) v162 t161) ∧ Aside0 (Kd.R (Kd.int .i64) 3 w' w.heap.size (fun k_ => some k_ ≠ (v159 : Value).ownBlock ∧ some k_ ≠ (v162 : Value).ownBlock) v165 t164) ∧ Aside0 (Below w.heap.size w w'))
     case atStart => exact ⟨(y158), (0), (by first | rfl | (simp; done) | (simp [*]; done)), H', ⟨Nat.le_refl _⟩, ⟨by (with_reducible repeat (first | apply Kd.R_alloc | apply Kd.R_drewN | apply Kd.R_drew)); exact HO160.out⟩, ⟨by (with_reducible repeat (first | apply Kd.R_alloc | apply Kd.R_drewN | apply Kd.R_drew)); exact HO163.out⟩, ⟨by (with_reducible repeat (first | apply Kd.R_alloc | apply Kd.R_drewN | apply Kd.R_drew)); exact HO166.out⟩, ⟨by repeat (first | exact HB.out | apply below_alloc | apply pw_below_drewN | apply below_drew1)⟩⟩
     case round =>
      clear H'
      try clear c2
      try clear c2b0
      try clear c2b1
      try clear p2
      try clear c3
      try clear c3b0
      try clear c3b1
      try clear c4
      obtain ⟨x3_1, x6_1, rfl, HA, HK1, HO_3, HO_4, HO_5, HB⟩ := hrel
      cases gk with
      | zero => exact absurd HA.out (by simp [purflingref04_depths.l0])
      | succ k1 =>
       have H := HA.out
       clear HA
       simp only [purflingref04_depths.l0] at H
       by_cases c10 : x6_1 < (t164.length : Int)
       · rw [if_pos c10] at H
         have c10b0 : decide (x6_1 < (t164.length : Int)) = true := decide_eq_true c10
         clear c10
         by_cases c11 : 0 ≤ x6_1
         · rw [if_pos c11] at H
           have c11b0 : decide (0 ≤ x6_1) = true := decide_eq_true c11
           clear c11
           by_cases c12 : (rd t164 x6_1) = 0
           · rw [if_pos c12] at H
             have c12b0 : ((rd t164 x6_1) == 0) = true := beq_iff_eq.mpr c12
             have c12b1 : ((rd t164 x6_1) != 0) = false := bne_eq_false_iff_eq.mpr c12
             clear c12
             by_cases c13 : 0 < (x3_1.length : Int)
             · rw [if_pos c13] at H
               have c13b0 : decide (0 < (x3_1.length : Int)) = true := decide_eq_true c13
               have c13b1 : decide (0 < x3_1.length) = true := decide_eq_true (by omega)
               clear c13
               obtain ⟨y168, hy168⟩ : ∃ y_ : List Int, y_ = (x3_1.set (0 : Int).toNat 1) := ⟨_, rfl⟩
               replace H : (purflingref04_depths.l0 k1 y168 t161 t164 (wrap64 (x6_1 + 1))) = some r := by first | (rw [hy168]; with_reducible exact H) | (have H2_ := (Option.bind_some _ _).symm.trans H; rw [hy168]; with_reducible exact H2_) | (have H2_ := (Option.bind_some _ _).symm.trans H; with_reducible exact H2_) | with_reducible exact H | (rw [hy168]; exact H) | exact H
               have Ny168 := Aside0.mk hy168
               clear hy168
               have H' := Aside0.mk H
               clear H
               obtain ⟨Ao15, co15, eo15⟩ := Kd.R_slice HO_5.out
               subst eo15
               have p167 : 0 ≤ (x6_1 : Int) := of_decide_eq_true (by first | (with_reducible assumption) | assumption)
               have q167 : x6_1 < (t164.length : Int) := of_decide_eq_true (by first | (with_reducible assumption) | assumption)
               obtain ⟨ad167, e167, hx167_0⟩ := Kd.at_int (Kd.R_reads' HO_5.out).2.2 x6_1 p167 q167
               cases e167
               replace p167 := eq_true p167
               replace q167 := eq_true q167
               have p14 : 0 ≤ (0 : Int) := (by omega)
               have q14 : (0 : Int) < ((x3_1.length : Int) : Int) := of_decide_eq_true (by first | (with_reducible assumption) | assumption)
               have qi14 : (0 < x3_1.length) = True := eq_true (by omega)
               obtain ⟨go14, co14, eo14, gb14, gl14, cl14, HG14⟩ := Kd.R_form HO_3.out (by omega)
               (first | cases eo14 | (injection eo14 with ea_ en_ ec_; (first | subst ea_ | (injection ea_ with ea_; subst ea_)); subst ec_; clear en_))
               have GB14 := Aside0.mk gb14
               have GG14 := Aside0.mk HG14
               clear gb14 gl14 HG14
               obtain ⟨hx14_0, hf14_0⟩ := Kd.R_celln 0 HO_3.out (0 : Int) p14 q14
               (try rw [show ((0 : Int)).toNat = 0 from rfl] at hx14_0)
               (try simp only [Nat.reduceMul, Nat.zero_mul, Nat.zero_add, Nat.reduceAdd] at hx14_0)
               (try rw [show ((0 : Int)).toNat = 0 from rfl] at hf14_0)
               (try simp only [Nat.reduceMul, Nat.zero_mul, Nat.zero_add, Nat.reduceAdd] at hf14_0)
               replace p14 := eq_true p14
               replace q14 := eq_true q14
               have HP16 := Kd.R_putg HO_3.out (0 : Int) 1
               go_wp2_with (first | ((with_reducible refine gate_store (t := 3) (p := 26) rfl ?_); refine store_event (t := 3) (p := 26) (v := ?vo_w17) (w1 := (wr.setCell ⟨go14, (0 : Int).toNat, none⟩ (.int .i64 1))) ?hg ?ho ?hn ?hr ?_; (case ho => rfl); (case hg => rfl); (case hn => rfl); (case hr => first | (go_simp; done) | (go_simp; rfl)); intro w17 hw; have hg : wr.grownBy w17 (some go14) := (by rw [hw]; exact HP16.2); have hp_ : Kd.R (Kd.int .i64) 3 w17 w.heap.size (fun k_ => some k_ ≠ (v162 : Value).ownBlock ∧ some k_ ≠ (.slice (some ad167) t164.length co15 : Value).ownBlock) (.slice (some ⟨go14, 0, none⟩) x3_1.length co14) y168 := (by rw [hw, Ny168.out]; exact HP16.1); clear HP16; have n0_ := Aside0.mk (hp_); have n1_ := Aside0.mk (Kd.R_after (v := (.slice (some ⟨go14, 0, none⟩) x3_1.length co14)) (v1 := (.slice (some ⟨go14, 0, none⟩) x3_1.length co14)) (ok := (fun k_ => some k_ ≠ (.slice (some ad167) t164.length co15 : Value).ownBlock)) (by (with_reducible repeat (first | apply Kd.R_alloc | apply Kd.R_drewN | apply Kd.R_drew)); exact Kd.R_mono HO_4.out (fun _ hk => ⟨hk.2, hk.1⟩)) hg (.inl rfl)); have n2_ := Aside0.mk (Kd.R_after (v := (.slice (some ⟨go14, 0, none⟩) x3_1.length co14)) (v1 := (.slice (some ⟨go14, 0, none⟩) x3_1.length co14)) (ok := (fun k_ => some k_ ≠ (v162 : Value).ownBlock)) (by (with_reducible repeat (first | apply Kd.R_alloc | apply Kd.R_drewN | apply Kd.R_drew)); exact Kd.R_mono HO_5.out (fun _ hk => ⟨hk.2, hk.1⟩)) hg (.inl rfl)); have n3_ := Aside0.mk ((by rw [hw]; exact below_set (HB.out) GB14.out : Below w.heap.size w w17)); clear HO_3; clear HO_4; clear HO_5; clear HB; have HO_3 := n0_; have HO_4 := n1_; have HO_5 := n2_; have HB := n3_; clear n0_ n1_ n2_ n3_; clear hg hw hp_))
               go_roundg k1
               case measure => have := HK1.out; omega
               case rel => exact ⟨(y168), (wrap64 (x6_1 + 1)), (by first | rfl | (simp; done) | (simp [*]; done)), H', ⟨by have := HK1.out; omega⟩, ⟨by (with_reducible repeat (first | apply Kd.R_alloc | apply Kd.R_drewN | apply Kd.R_drew)); exact HO_3.out⟩, ⟨by (with_reducible repeat (first | apply Kd.R_alloc | apply Kd.R_drewN | apply Kd.R_drew)); exact Kd.R_mono HO_4.out (fun _ hk => ⟨hk.2, hk.1⟩)⟩, ⟨by (with_reducible repeat (first | apply Kd.R_alloc | apply Kd.R_drewN | apply Kd.R_drew)); exact Kd.R_mono HO_5.out (fun _ hk => ⟨hk.2, hk.1⟩)⟩, ⟨by repeat (first | exact HB.out | apply below_alloc | apply pw_below_drewN | apply below_drew1)⟩⟩
             · rw [if_neg c13] at H
               exact absurd H (by simp)
           · rw [if_neg c12] at H
             have c12b0 : ((rd t164 x6_1) == 0) = false := beq_eq_false_iff_ne.mpr c12
             have c12b1 : ((rd t164 x6_1) != 0) = true := bne_iff_ne.mpr c12
             by_cases c18 : 0 ≤ (rd t164 x6_1)
             · rw [if_pos c18] at H
               have c18b0 : decide (0 ≤ (rd t164 x6_1)) = true := decide_eq_true c18
               clear c18
               by_cases c19 : (rd t164 x6_1) < (t161.length : Int)
               · rw [if_pos c19] at H
                 have c19b0 : decide ((rd t164 x6_1) < (t161.length : Int)) = true := decide_eq_true c19
                 clear c19
                 by_cases c20 : 0 ≤ (rd t161 (rd t164 x6_1))
                 · rw [if_pos c20] at H
                   have c20b0 : decide (0 ≤ (rd t161 (rd t164 x6_1))) = true := decide_eq_true c20
                   clear c20
                   by_cases c21 : (rd t161 (rd t164 x6_1)) < (x3_1.length : Int)
                   · rw [if_pos c21] at H
                     have c21b0 : decide ((rd t161 (rd t164 x6_1)) < (x3_1.length : Int)) = true := decide_eq_true c21
                     clear c21
                     by_cases c22 : (rd t164 x6_1) < (x3_1.length : Int)
                     · rw [if_pos c22] at H
                       have c22b0 : decide ((rd t164 x6_1) < (x3_1.length : Int)) = true := decide_eq_true c22
                       clear c22
                       obtain ⟨y173, hy173⟩ : ∃ y_ : List Int, y_ = (x3_1.set ((rd t164 x6_1) : Int).toNat (wrap64 ((rd x3_1 (rd t161 (rd t164 x6_1))) + 1))) := ⟨_, rfl⟩
                       replace H : (purflingref04_depths.l0 k1 y173 t161 t164 (wrap64 (x6_1 + 1))) = some r := by first | (rw [hy173]; with_reducible exact H) | (have H2_ := (Option.bind_some _ _).symm.trans H; rw [hy173]; with_reducible exact H2_) | (have H2_ := (Option.bind_some _ _).symm.trans H; with_reducible exact H2_) | with_reducible exact H | (rw [hy173]; exact H) | exact H
                       have Ny173 := Aside0.mk hy173
                       clear hy173
                       have H' := Aside0.mk H
                       clear H
                       obtain ⟨Ao24, co24, eo24⟩ := Kd.R_slice HO_5.out
                       subst eo24
                       have p167 : 0 ≤ (x6_1 : Int) := of_decide_eq_true (by first | (with_reducible assumption) | assumption)
                       have q167 : x6_1 < (t164.length : Int) := of_decide_eq_true (by first | (with_reducible assumption) | assumption)
                       obtain ⟨ad167, e167, hx167_0⟩ := Kd.at_int (Kd.R_reads' HO_5.out).2.2 x6_1 p167 q167
                       cases e167
                       replace p167 := eq_true p167
                       replace q167 := eq_true q167
                       try go_wp2
                       have n0_ := Aside0.mk (Kd.R_drew HO_3.out)
                       have n1_ := Aside0.mk (Kd.R_drew HO_4.out)
                       have n2_ := Aside0.mk (Kd.R_drew HO_5.out)
                       have n3_ := Aside0.mk (below_drew1 HB.out)
                       clear HO_3
                       clear HO_4
                       clear HO_5
                       clear HB
                       have HO_3 := n0_
                       have HO_4 := n1_
                       have HO_5 := n2_
                       have HB := n3_
                       clear n0_ n1_ n2_ n3_
                       have p169 : 0 ≤ (x6_1 : Int) := of_decide_eq_true (by first | (with_reducible assumption) | assumption)
                       have q169 : x6_1 < (t164.length : Int) := of_decide_eq_true (by first | (with_reducible assumption) | assumption)
                       obtain ⟨ad169, e169, hx169_0⟩ := Kd.at_int (Kd.R_reads' HO_5.out).2.2 x6_1 p169 q169
                       obtain rfl : ad167 = ad169 := (by injection e169)
                       replace p169 := eq_true p169
                       replace q169 := eq_true q169
                       have p170 : 0 ≤ (x6_1 : Int) := of_decide_eq_true (by first | (with_reducible assumption) | assumption)
                       have q170 : x6_1 < (t164.length : Int) := of_decide_eq_true (by first | (with_reducible assumption) | assumption)
                       obtain ⟨ad170, e170, hx170_0⟩ := Kd.at_int (Kd.R_reads' HO_5.out).2.2 x6_1 p170 q170
                       obtain rfl : ad167 = ad170 := (by injection e170)
                       replace p170 := eq_true p170
                       replace q170 := eq_true q170
                       obtain ⟨Ao26, co26, eo26⟩ := Kd.R_slice HO_4.out
                       (first | subst eo26 | (injection eo26 with f1_ f2_ f3_; have f4_ := f1_.symm; have f5_ := f3_.symm; clear f1_ f2_ f3_; subst f4_; subst f5_))
                       have p171 : 0 ≤ ((rd t164 x6_1) : Int) := of_decide_eq_true (by first | (with_reducible assumption) | assumption)
                       have q171 : (rd t164 x6_1) < (t161.length : Int) := of_decide_eq_true (by first | (with_reducible assumption) | assumption)
                       obtain ⟨ad171, e171, hx171_0⟩ := Kd.at_int (Kd.R_reads' HO_4.out).2.2 (rd t164 x6_1) p171 q171
                       cases e171
                       replace p171 := eq_true p171
                       replace q171 := eq_true q171
                       obtain ⟨Ao27, co27, eo27⟩ := Kd.R_slice HO_3.out
                       (first | subst eo27 | (injection eo27 with f1_ f2_ f3_; have f4_ := f1_.symm; have f5_ := f3_.symm; clear f1_ f2_ f3_; subst f4_; subst f5_))
                       have p172 : 0 ≤ ((rd t161 (rd t164 x6_1)) : Int) := of_decide_eq_true (by first | (with_reducible assumption) | assumption)
                       have q172 : (rd t161 (rd t164 x6_1)) < (x3_1.length : Int) := of_decide_eq_true (by first | (with_reducible assumption) | assumption)
                       obtain ⟨ad172, e172, hx172_0⟩ := Kd.at_int (Kd.R_reads' HO_3.out).2.2 (rd t161 (rd t164 x6_1)) p172 q172
                       cases e172
                       replace p172 := eq_true p172
                       replace q172 := eq_true q172
                       have p23 : 0 ≤ ((rd t164 x6_1) : Int) := of_decide_eq_true (by first | (with_reducible assumption) | assumption)
                       have q23 : ((rd t164 x6_1) : Int) < ((x3_1.length : Int) : Int) := of_decide_eq_true (by first | (with_reducible assumption) | assumption)
                       obtain ⟨go23, co23, eo23, gb23, gl23, cl23, HG23⟩ := Kd.R_form HO_3.out (by omega)
                       (first | cases eo23 | (injection eo23 with ea_ en_ ec_; (first | subst ea_ | (injection ea_ with ea_; subst ea_)); subst ec_; clear en_))
                       have GB23 := Aside0.mk gb23
                       have GG23 := Aside0.mk HG23
                       clear gb23 gl23 HG23
                       (first | simp only [add_plain] at hx172_0 | skip)
                       obtain ⟨hx23_0, hf23_0⟩ := Kd.R_celln 0 HO_3.out ((rd t164 x6_1) : Int) p23 q23
                       replace p23 := eq_true p23
                       replace q23 := eq_true q23
                       have HP28 := Kd.R_putn HO_3.out ((rd t164 x6_1) : Int) (wrap64 ((rd x3_1 (rd t161 (rd t164 x6_1))) + 1))
                       rw [← Ny173.out] at HP28
                       have HQ28 := Aside0.mk HP28
                       clear HP28
                       refine start_ (n := 18) (S := fun w' => w'.cell? (ad167.add (x6_1).toNat) = some (.int .i64 (rd t164 x6_1)) ∧ w'.cell? (ad167.add (x6_1).toNat) = some (.int .i64 (rd t164 x6_1)) ∧ w'.cell? (ad171.add ((rd t164 x6_1)).toNat) = some (.int .i64 (rd t161 (rd t164 x6_1))) ∧ w'.cell? ⟨go23, ((rd t161 (rd t164 x6_1))).toNat, none⟩ = some (.int .i64 (rd x3_1 (rd t161 (rd t164 x6_1))))) (ds := [17]) #[false, false, false, false, false, false, false, false, false, false, false, false, false, false, false, false, false, false] (by kernel_rfl) rfl rfl ⟨hx169_0, hx170_0, hx171_0, hx172_0⟩ (fun hHeld => ?_); refine with_tabW purflingref04_depths.tab9 purflingref04_depths.bits9 (fun HT_ HW_ => ?_)
                       generalize wr.drew = w25 at HO_3 HO_4 HO_5 HB GG23 HQ28 hf23_0 hx169_0 hx170_0 hx171_0 hx172_0 hx23_0 hHeld ⊢
                       refine pure_ (i := 0) (N := some 27) (v := ?_) (a' := ?_) #[true, false, false, false, false, false, false, false, false, false, false, false, false, false, false, false, false, false] rfl rfl (any_of HT_.out (by kernel_rfl)) (fun _ _ _ h => h) (Or.inl ⟨by rfl, ?_⟩) ?_ ?_
                       rotate_left
                       · intro w'
                         go_simp
                         with_reducible rfl
                       rotate_left
                       · simp only [Act.put, List.setIfInBounds_toArray, List.set_cons_zero, List.set_cons_succ, i64_w, i32_w]
                         rfl
                       refine pure_ (i := 1) (N := some 28) (v := ?_) (a' := ?_) #[true, true, false, false, false, false, false, false, false, false, false, false, false, false, false, false, false, false] rfl rfl (any_of HT_.out (by kernel_rfl)) (fun _ _ _ h => h) (Or.inl ⟨by rfl, ?_⟩) ?_ ?_
                       rotate_left
                       · intro w'
                         go_simp
                         with_reducible rfl
                       rotate_left
                       · simp only [Act.put, List.setIfInBounds_toArray, List.set_cons_zero, List.set_cons_succ, i64_w, i32_w]
                         rfl
                       refine pure_ (i := 2) (N := some 29) (v := ?_) (a' := ?_) #[true, true, true, false, false, false, false, false, false, false, false, false, false, false, false, false, false, false] rfl rfl (any_of HT_.out (by kernel_rfl)) (fun _ _ _ h => h) (Or.inl ⟨by rfl, ?_⟩) ?_ ?_
                       rotate_left
                       · intro w'
                         go_simp
                         with_reducible rfl
                       rotate_left
                       · simp only [Act.put, List.setIfInBounds_toArray, List.set_cons_zero, List.set_cons_succ, i64_w, i32_w]
                         rfl
                       refine pure_ (i := 3) (N := some 30) (v := ?_) (a' := ?_) #[true, true, true, true, false, false, false, false, false, false, false, false, false, false, false, false, false, false] rfl rfl (any_of HT_.out (by kernel_rfl)) (fun _ _ _ h => h) (Or.inl ⟨by rfl, ?_⟩) ?_ ?_
                       rotate_left
                       · intro w'
                         go_simp
                         with_reducible rfl
                       rotate_left
                       · simp only [Act.put, List.setIfInBounds_toArray, List.set_cons_zero, List.set_cons_succ, i64_w, i32_w]
                         rfl
                       refine pure_ (i := 5) (N := some 32) (v := ?_) (a' := ?_) #[true, true, true, true, false, true, false, false, false, false, false, false, false, false, false, false, false, false] rfl rfl (any_of HT_.out (by kernel_rfl)) (fun _ _ _ h => h) (Or.inl ⟨by rfl, ?_⟩) ?_ ?_
                       rotate_left
                       · intro w'
                         go_simp
                         with_reducible rfl
                       rotate_left
                       · simp only [Act.put, List.setIfInBounds_toArray, List.set_cons_zero, List.set_cons_succ, i64_w, i32_w]
                         rfl
                       refine pure_ (i := 6) (N := some 33) (v := ?_) (a' := ?_) #[true, true, true, true, false, true, true, false, false, false, false, false, false, false, false, false, false, false] rfl rfl (any_of HT_.out (by kernel_rfl)) (fun _ _ _ h => h) (Or.inl ⟨by rfl, ?_⟩) ?_ ?_
                       rotate_left
                       · intro w'
                         go_simp
                         with_reducible rfl
                       rotate_left
                       · simp only [Act.put, List.setIfInBounds_toArray, List.set_cons_zero, List.set_cons_succ, i64_w, i32_w]
                         rfl
                       refine pure_ (i := 7) (N := some 34) (v := ?_) (a' := ?_) #[true, true, true, true, false, true, true, true, false, false, false, false, false, false, false, false, false, false] rfl rfl (any_of HT_.out (by kernel_rfl)) (fun _ _ _ h => h) (Or.inl ⟨by rfl, ?_⟩) ?_ ?_
                       rotate_left
                       · intro w'
                         go_simp
                         with_reducible rfl
                       rotate_left
                       · simp only [Act.put, List.setIfInBounds_toArray, List.set_cons_zero, List.set_cons_succ, i64_w, i32_w]
                         rfl
                       refine pure_ (i := 8) (N := some 35) (v := ?_) (a' := ?_) #[true, true, true, true, false, true, true, true, true, false, false, false, false, false, false, false, false, false] rfl rfl (any_of HT_.out (by kernel_rfl)) (fun _ _ _ h => h) (Or.inl ⟨by rfl, ?_⟩) ?_ ?_
                       rotate_left
                       · intro w'
                         go_simp
                         with_reducible rfl
                       rotate_left
                       · simp only [Act.put, List.setIfInBounds_toArray, List.set_cons_zero, List.set_cons_succ, i64_w, i32_w]
                         rfl
                       refine pure_ (i := 9) (N := some 36) (v := ?_) (a' := ?_) #[true, true, true, true, false, true, true, true, true, true, false, false, false, false, false, false, false, false] rfl rfl (any_of HT_.out (by kernel_rfl)) (fun _ _ _ h => h) (Or.inl ⟨by rfl, ?_⟩) ?_ ?_
                       rotate_left
                       · intro w'
                         go_simp
                         with_reducible rfl
                       rotate_left
                       · simp only [Act.put, List.setIfInBounds_toArray, List.set_cons_zero, List.set_cons_succ, i64_w, i32_w]
                         rfl
                       refine take_ (i := 4) (N := some 31) (v := ?_) (a' := ?_) #[true, true, true, true, true, true, true, true, true, true, false, false, false, false, false, false, false, false] rfl rfl (take_ofW HT_.out HW_.out (by kernel_rfl)) (fun _ _ _ h => h) (Or.inl ⟨by rfl, ?_⟩) hHeld ?_ ?_
                       rotate_left
                       · rintro w' ⟨s0, s1, s2, s3⟩
                         go_simp
                         with_reducible rfl
                       rotate_left
                       · simp only [Act.put, List.setIfInBounds_toArray, List.set_cons_zero, List.set_cons_succ, i64_w, i32_w]
                         rfl
                       refine take_ (i := 10) (N := some 37) (v := ?_) (a' := ?_) #[true, true, true, true, true, true, true, true, true, true, true, false, false, false, false, false, false, false] rfl rfl (take_ofW HT_.out HW_.out (by kernel_rfl)) (fun _ _ _ h => h) (Or.inl ⟨by rfl, ?_⟩) hHeld ?_ ?_
                       rotate_left
                       · rintro w' ⟨s0, s1, s2, s3⟩
                         go_simp
                         with_reducible rfl
                       rotate_left
                       · simp only [Act.put, List.setIfInBounds_toArray, List.set_cons_zero, List.set_cons_succ, i64_w, i32_w]
                         rfl
                       refine pure_ (i := 11) (N := some 38) (v := ?_) (a' := ?_) #[true, true, true, true, true, true, true, true, true, true, true, true, false, false, false, false, false, false] rfl rfl (any_of HT_.out (by kernel_rfl)) (fun _ _ _ h => h) (Or.inl ⟨by rfl, ?_⟩) ?_ ?_
                       rotate_left
                       · intro w'
                         go_simp
                         with_reducible rfl
                       rotate_left
                       · simp only [Act.put, List.setIfInBounds_toArray, List.set_cons_zero, List.set_cons_succ, i64_w, i32_w]
                         rfl
                       refine take_ (i := 12) (N := some 39) (v := ?_) (a' := ?_) #[true, true, true, true, true, true, true, true, true, true, true, true, true, false, false, false, false, false] rfl rfl (take_ofW HT_.out HW_.out (by kernel_rfl)) (fun _ _ _ h => h) (Or.inl ⟨by rfl, ?_⟩) hHeld ?_ ?_
                       rotate_left
                       · rintro w' ⟨s0, s1, s2, s3⟩
                         go_simp
                         with_reducible rfl
                       rotate_left
                       · simp only [Act.put, List.setIfInBounds_toArray, List.set_cons_zero, List.set_cons_succ, i64_w, i32_w]
                         rfl
                       refine pure_ (i := 13) (N := some 40) (v := ?_) (a' := ?_) #[true, true, true, true, true, true, true, true, true, true, true, true, true, true, false, false, false, false] rfl rfl (any_of HT_.out (by kernel_rfl)) (fun _ _ _ h => h) (Or.inl ⟨by rfl, ?_⟩) ?_ ?_
                       rotate_left
                       · intro w'
                         go_simp
                         with_reducible rfl
                       rotate_left
                       · simp only [Act.put, List.setIfInBounds_toArray, List.set_cons_zero, List.set_cons_succ, i64_w, i32_w]
                         rfl
                       refine take_ (i := 14) (N := some 41) (v := ?_) (a' := ?_) #[true, true, true, true, true, true, true, true, true, true, true, true, true, true, true, false, false, false] rfl rfl (take_ofW HT_.out HW_.out (by kernel_rfl)) (fun _ _ _ h => h) (Or.inl ⟨by rfl, ?_⟩) hHeld ?_ ?_
                       rotate_left
                       · rintro w' ⟨s0, s1, s2, s3⟩
                         go_simp
                         with_reducible rfl
                       rotate_left
                       · simp only [Act.put, List.setIfInBounds_toArray, List.set_cons_zero, List.set_cons_succ, i64_w, i32_w]
                         rfl
                       refine pure_ (i := 15) (N := some 42) (v := ?_) (a' := ?_) #[true, true, true, true, true, true, true, true, true, true, true, true, true, true, true, true, false, false] rfl rfl (any_of HT_.out (by kernel_rfl)) (fun _ _ _ h => h) (Or.inl ⟨by rfl, ?_⟩) ?_ ?_
                       rotate_left
                       · intro w'
                         go_simp
                         with_reducible rfl
                       rotate_left
                       · simp only [Act.put, List.setIfInBounds_toArray, List.set_cons_zero, List.set_cons_succ, i64_w, i32_w]
                         rfl
                       refine pure_ (i := 16) (N := some 43) (v := ?_) (a' := ?_) #[true, true, true, true, true, true, true, true, true, true, true, true, true, true, true, true, true, false] rfl rfl (any_of HT_.out (by kernel_rfl)) (fun _ _ _ h => h) (Or.inl ⟨by rfl, ?_⟩) ?_ ?_
                       rotate_left
                       · intro w'
                         go_simp
                         with_reducible rfl
                       rotate_left
                       · simp only [Act.put, List.setIfInBounds_toArray, List.set_cons_zero, List.set_cons_succ, i64_w, i32_w]
                         rfl
                       refine last_ (i := 17) (N := none) #[true, true, true, true, true, true, true, true, true, true, true, true, true, true, true, true, true, true] rfl rfl (one_of HT_.out (by kernel_rfl)) (by decide) (fun K hK => ?_)
                       refine skip_ (w1 := ?_) (by rfl) rfl ?_ ?_
                       rotate_left
                       · go_simp
                         rfl
                       refine hK.out _ _ ?_
                       clear hK K
                       refine done_ (done_of HT_.out (by kernel_rfl)) ?_
                       try go_wp2
                       go_roundg k1
                       case measure => have := HK1.out; omega
                       case rel => exact ⟨(y173), (wrap64 (x6_1 + 1)), (by first | rfl | (simp; done) | (simp [*]; done)), H', ⟨by have := HK1.out; omega⟩, ⟨by (with_reducible repeat (first | apply Kd.R_alloc | apply Kd.R_drewN | apply Kd.R_drew)); exact HQ28.out⟩, ⟨by (with_reducible repeat (first | apply Kd.R_alloc | apply Kd.R_drewN | apply Kd.R_drew)); exact Kd.R_mono (Kd.R_far (p := ⟨go23, ((rd t164 x6_1) : Int).toNat, none⟩) (Kd.R_mono HO_4.out (fun k_ hk => (⟨hk, fun e_ => hk.1 (by rw [e_]; rfl)⟩ : _ ∧ k_ ≠ go23))) (fun _ hk => hk.2) (.int .i64 (wrap64 ((rd x3_1 (rd t161 (rd t164 x6_1))) + 1)))) (fun _ hk => ⟨hk.1.1, hk.1.2⟩)⟩, ⟨by (with_reducible repeat (first | apply Kd.R_alloc | apply Kd.R_drewN | apply Kd.R_drew)); exact Kd.R_mono (Kd.R_far (p := ⟨go23, ((rd t164 x6_1) : Int).toNat, none⟩) (Kd.R_mono HO_5.out (fun k_ hk => (⟨hk, fun e_ => hk.1 (by rw [e_]; rfl)⟩ : _ ∧ k_ ≠ go23))) (fun _ hk => hk.2) (.int .i64 (wrap64 ((rd x3_1 (rd t161 (rd t164 x6_1))) + 1)))) (fun _ hk => ⟨hk.1.1, hk.1.2⟩)⟩, ⟨by repeat (first | (with_reducible first | exact HB.out | apply below_alloc | apply pw_below_drewN | apply below_drew1 | refine below_set ?_ GB23.out) | exact HB.out)⟩⟩
                     · rw [if_neg c22] at H
                       exact absurd H (by simp)
                   · rw [if_neg c21] at H
                     exact absurd H (by simp)
                 · rw [if_neg c20] at H
                   exact absurd H (by simp)
               · rw [if_neg c19] at H
                 exact absurd H (by simp)
             · rw [if_neg c18] at H
               exact absurd H (by simp)
         · rw [if_neg c11] at H
           exact absurd H (by simp)
       · rw [if_neg c10] at H
         have c10b0 : decide (x6_1 < (t164.length : Int)) = false := decide_eq_false c10
         clear c10
         obtain rfl := Option.some.inj H
         obtain ⟨Ao29, co29, eo29⟩ := Kd.R_slice HO_5.out
         subst eo29
         go_wp2
         go_ret
         exact ⟨_, by first | rfl | (simp [errW_none, errW_some] <;> rfl) | (simp [*, errW_none, errW_some] <;> rfl), by (with_reducible repeat (first | apply Kd.R_alloc | apply Kd.R_drewN | apply Kd.R_drew)); exact Kd.R_mono HO_3.out (fun _ hk => trivial), by repeat (first | exact HB.out | apply below_alloc | apply pw_below_drewN | apply below_drew1)⟩
   · rw [if_neg c3] at H
     exact absurd H (by simp)
 · rw [if_neg c2] at H
   exact absurd H (by simp)
end Go.Proofs.Ytjhpkikgajgdmaa.K
