-- PRINTED by print.py (a twelfth state) out of the translation. Not trusted: Lean checks it.
import Derived.Test.YtjhpkikgajgdmaaK0
namespace Go.Proofs.Ytjhpkikgajgdmaa.K
open Go.RowKit Go.Proofs.YtjhpkikgajgdmaaW.PrintWords Go.Proofs.YtjhpkikgajgdmaaW.PrintLast Go.Proofs.YtjhpkikgajgdmaaW.PrintMore
attribute [local go_sem] max2_int min2_int max_two min_two max_three min_three max_four min_four   -- for this text's walks alone
set_option linter.unusedVariables false
set_option linter.unusedSimpArgs false
/-! ### purflingref04_parents: function 45 -/
mutual
def purflingref04_parents.l0 : Nat → List (S43) → List Int → Int → Option (List Int)
 | 0, _, _, _ => none
 | k + 1, x0, x3, x4 => if x4 < (x0.length : Int) then (purflingref04_parents.l1 k x0 x3 x4 0) else (some x3)
def purflingref04_parents.l1 : Nat → List (S43) → List Int → Int → Int → Option (List Int)
 | 0, _, _, _, _ => none
 | k + 1, x0, x3, x4, x5 => if 0 ≤ x4 then (if x4 < (x0.length : Int) then (if x5 < (((rd_T43 x0 x4).f1).length : Int) then (if 0 ≤ x5 then (if 0 ≤ (rd ((rd_T43 x0 x4).f1) x5) then (if (rd ((rd_T43 x0 x4).f1) x5) < (x3.length : Int) then (purflingref04_parents.l1 k x0 (x3.set ((rd ((rd_T43 x0 x4).f1) x5) : Int).toNat x4) x4 (wrap64 (x5 + 1))) else (none)) else (none)) else (none)) else (purflingref04_parents.l0 k x0 x3 (wrap64 (x4 + 1)))) else (none)) else (none)
end
def purflingref04_parents.f (k : Nat) (l0 : List (S43)) : Option (List Int) := if 0 ≤ (l0.length : Int) then (if ((l0.length : Int) : Int).toNat ≤ 35184372088832 then ((some (List.replicate ((l0.length : Int) : Int).toNat 0 : List Int)).bind fun y150 => (if 0 < (y150.length : Int) then (purflingref04_parents.l0 k l0 (y150.set (0 : Int).toNat (-1)) 0) else (none))) else (none)) else (none)
set_option maxHeartbeats 8000000 in
set_option maxRecDepth 100000 in
theorem purflingref04_parents.calls (k : Nat) (A0 : Option Addr) (c0 : Nat) (l0 : List (S43)) (r : List Int) (w : World) (hr0 : Kd.C k43 w A0 l0.length l0) (hc0 : l0.length ≤ c0) (h : purflingref04_parents.f k l0 = some r) :
 Calls Try.prog 45 #[.slice A0 l0.length c0] w fun e w' => ∃ v0_ : Value, e = .returned (v0_) ∧ Kd.R (Kd.int .i64) 3 w' w.heap.size (fun _ => True) v0_ r ∧ Below w.heap.size w w' := by
 have HR0 := Aside0.mk hr0
 have HC0 := Aside0.mk hc0
 clear hr0 hc0
 have HB := Aside0.mk (Below.refl w.heap.size w)
 have H : (if 0 ≤ (l0.length : Int) then (if ((l0.length : Int) : Int).toNat ≤ 35184372088832 then ((some (List.replicate ((l0.length : Int) : Int).toNat 0 : List Int)).bind fun y150 => (if 0 < (y150.length : Int) then (purflingref04_parents.l0 k l0 (y150.set (0 : Int).toNat (-1)) 0) else (none))) else (none)) else (none)) = some r := h
 clear h
 by_cases c2 : 0 ≤ (l0.length : Int)
 · rw [if_pos c2] at H
   have c2b0 := eq_true c2
   have c2b1 : decide (0 ≤ (l0.length : Int)) = true := decide_eq_true c2
   clear c2
   by_cases c3 : ((l0.length : Int) : Int).toNat ≤ 35184372088832
   · rw [if_pos c3] at H
     have c3b0 := eq_true c3
     have c3b1 : decide (((l0.length : Int) : Int).toNat ≤ 35184372088832) = true := decide_eq_true c3
     clear c3
     obtain ⟨y150, hy150⟩ : ∃ y_ : List Int, y_ = (List.replicate ((l0.length : Int) : Int).toNat 0) := ⟨_, rfl⟩
     replace H : (if 0 < (y150.length : Int) then (purflingref04_parents.l0 k l0 (y150.set (0 : Int).toNat (-1)) 0) else (none)) = some r := by first | (rw [hy150]; with_reducible exact H) | (have H2_ := (Option.bind_some _ _).symm.trans H; rw [hy150]; with_reducible exact H2_) | (have H2_ := (Option.bind_some _ _).symm.trans H; with_reducible exact H2_) | with_reducible exact H | (rw [hy150]; exact H) | exact H
     have Ny150 := Aside0.mk hy150
     clear hy150
     by_cases c4 : 0 < (y150.length : Int)
     · rw [if_pos c4] at H
       have c4b0 : decide (0 < (y150.length : Int)) = true := decide_eq_true c4
       have c4b1 : decide (0 < y150.length) = true := decide_eq_true (by omega)
       clear c4
       obtain ⟨y153, hy153⟩ : ∃ y_ : List Int, y_ = (y150.set (0 : Int).toNat (-1)) := ⟨_, rfl⟩
       replace H : (purflingref04_parents.l0 k l0 y153 0) = some r := by first | (rw [hy153]; with_reducible exact H) | (have H2_ := (Option.bind_some _ _).symm.trans H; rw [hy153]; with_reducible exact H2_) | (have H2_ := (Option.bind_some _ _).symm.trans H; with_reducible exact H2_) | with_reducible exact H | (rw [hy153]; exact H) | exact H
       have Ny153 := Aside0.mk hy153
       clear hy153
       have H' := Aside0.mk H
       clear H
       go_enter Try.func45, Try.ntmps45
       go_wp2_with (first | ((with_reducible refine gate_dst (N := 8) rfl ?_); refine Kd.R_make (Kd.int .i64) _ 3 rfl (N := 8) rfl 30 _ _ rfl (l0.length : Int) rfl rfl Try.underlying30 (.int .i64 0) 8 info3 rfl (by decide) (by omega) 0 (ok := fun _ => True) (okp := fun _ => True) rfl (fun _ hk => hk) trivial (of_decide_eq_true (by first | (with_reducible assumption) | assumption)) (Nat.le_trans (Nat.mul_le_mul_right _ (of_decide_eq_true (by first | (with_reducible assumption) | assumption) : (l0.length : Int).toNat ≤ 35184372088832)) (by omega)) (Below.refl _ _) (Nat.le_refl _) ?_; intro v151 w6 ho7 hb hg_ hnew_; clear hg_ hnew_; (first | rw [← Ny150.out] at ho7 | (simp only [Int.reduceToNat] at ho7; rw [← Ny150.out] at ho7)); have n0_ := Aside0.mk (Kd.R_lower ho7 (below_size (by repeat (first | exact HB.out | apply below_alloc | apply pw_below_drewN | apply below_drew1)))); have n1_ := Aside0.mk (below_step (by repeat (first | exact HB.out | apply below_alloc | apply pw_below_drewN | apply below_drew1)) hb); clear HB; have HO152 := n0_; have HB := n1_; clear n0_ n1_; clear hb ho7; have p5 : 0 ≤ (0 : Int) := (by omega); have q5 : (0 : Int) < ((y150.length : Int) : Int) := of_decide_eq_true (by first | (with_reducible assumption) | assumption); have qi5 : (0 < y150.length) = True := eq_true (by omega); obtain ⟨go5, co5, eo5, gb5, gl5, cl5, HG5⟩ := Kd.R_form HO152.out (by omega); (first | cases eo5 | (injection eo5 with ea_ en_ ec_; (first | subst ea_ | (injection ea_ with ea_; subst ea_)); subst ec_; clear en_)); have GB5 := Aside0.mk gb5; have GG5 := Aside0.mk HG5; clear gb5 gl5 HG5; obtain ⟨hx5_0, hf5_0⟩ := Kd.R_celln 0 HO152.out (0 : Int) p5 q5; (try rw [show ((0 : Int)).toNat = 0 from rfl] at hx5_0); (try simp only [Nat.reduceMul, Nat.zero_mul, Nat.zero_add, Nat.reduceAdd] at hx5_0); (try rw [show ((0 : Int)).toNat = 0 from rfl] at hf5_0); (try simp only [Nat.reduceMul, Nat.zero_mul, Nat.zero_add, Nat.reduceAdd] at hf5_0); replace p5 := eq_true p5; replace q5 := eq_true q5; obtain ⟨hy8_, hz8_⟩ := Kd.R_celln 0 HO152.out (0 : Int) (by omega) (of_decide_eq_true (by first | (with_reducible assumption) | assumption)); (try simp only [Int.reduceToNat, Int.toNat_zero, Int.toNat_ofNat, Nat.reduceMul, Nat.zero_mul, Nat.zero_add] at hy8_ hz8_); (try rw [show ((0 : Int)).toNat = 0 from rfl] at hy8_); (try rw [show ((0 : Int)).toNat = 0 from rfl] at hz8_); have HP8 := Kd.R_putg HO152.out (0 : Int) (-1)) | ((with_reducible refine gate_store (t := 3) (p := 10) rfl ?_); refine store_event (t := 3) (p := 10) (v := ?vo_w9) (w1 := (w6.setCell ⟨go5, (0 : Int).toNat, none⟩ (.int .i64 (-1)))) ?hg ?ho ?hn ?hr ?_; (case ho => rfl); (case hg => rfl); (case hn => rfl); (case hr => first | (go_simp; done) | (go_simp; rfl)); intro w9 hw; have hg : w6.grownBy w9 (some go5) := (by rw [hw]; exact HP8.2); have hp_ : Kd.R (Kd.int .i64) 3 w9 w.heap.size (fun _ => True) (.slice (some ⟨go5, 0, none⟩) y150.length co5) y153 := (by rw [hw, Ny153.out]; exact HP8.1); clear HP8; have n0_ := Aside0.mk (hp_); have n1_ := Aside0.mk ((by rw [hw]; exact below_set (HB.out) GB5.out : Below w.heap.size w w9)); clear HO152; clear HB; have HO152 := n0_; have HB := n1_; clear n0_ n1_; clear hg hw hp_))
       go_loopg [4] k (fun kq v4 w' => ∃ (x3_1 : List Int) (x4_1 : Int), v4 = .int .i64 x4_1 ∧ Aside0 (purflingref04_parents.l0 kq l0 x3_1 x4_1 = some r) ∧ Aside0 (kq ≤ k) ∧ Aside0 (Kd.R (Kd.int .i64) 3 w' w.heap.size (fun _ => True) (.slice (some ⟨go5, 0, none⟩) y150.length co5) x3_1) ∧ Aside0 (Below w.heap.size w w'))
       case atStart => exact ⟨(y153), (0), (by first | rfl | (simp; done) | (simp [*]; done)), H', ⟨Nat.le_refl _⟩, ⟨by (with_reducible repeat (first | apply Kd.R_alloc | apply Kd.R_drewN | apply Kd.R_drew)); exact HO152.out⟩, ⟨by repeat (first | exact HB.out | apply below_alloc | apply pw_below_drewN | apply below_drew1)⟩⟩
       case round =>
        clear H'
        try clear c2
        try clear c2b0
        try clear c2b1
        try clear p2
        try clear c3
        try clear c3b0
        try clear c3b1
        try clear c4
        try clear c4b0
        try clear c4b1
        try clear p5
        try clear q5
        try clear hx5
        try clear qi5
        try clear hf5
        try clear hx5_0
        try clear p5
        try clear q5
        obtain ⟨x3_1, x4_1, rfl, HA, HK1, HO_3, HB⟩ := hrel
        have hl3_1 := (Kd.R_reads' HO_3.out).1
        rw [hl3_1] at HO_3
        (try simp only [hl3_1])
        cases gk with
        | zero => exact absurd HA.out (by simp [purflingref04_parents.l0])
        | succ k1 =>
         have H := HA.out
         clear HA
         simp only [purflingref04_parents.l0] at H
         by_cases c10 : x4_1 < (l0.length : Int)
         · rw [if_pos c10] at H
           have c10b0 : decide (x4_1 < (l0.length : Int)) = true := decide_eq_true c10
           clear c10
           have H' := Aside0.mk H
           clear H
           go_wp2
           go_loopg [5] k1 (fun kq v5 w' => ∃ (x3_2 : List Int) (x5_2 : Int), v5 = .int .i64 x5_2 ∧ Aside0 (purflingref04_parents.l1 kq l0 x3_2 x4_1 x5_2 = some r) ∧ Aside0 (kq ≤ k1) ∧ Aside0 (Kd.R (Kd.int .i64) 3 w' w.heap.size (fun _ => True) (.slice (some ⟨go5, 0, none⟩) x3_1.length co5) x3_2) ∧ Aside0 (Below w.heap.size w w'))
           case atStart => exact ⟨(x3_1), (0), (by first | rfl | (simp; done) | (simp [*]; done)), H', ⟨Nat.le_refl _⟩, ⟨by (try simp only [hl3_1]); (with_reducible repeat (first | apply Kd.R_alloc | apply Kd.R_drewN | apply Kd.R_drew)); exact HO_3.out⟩, ⟨by repeat (first | exact HB.out | apply below_alloc | apply pw_below_drewN | apply below_drew1)⟩⟩
           case round =>
            clear H'
            try clear c1
            try clear c2
            try clear c2b0
            try clear c2b1
            try clear p2
            try clear c3
            try clear c3b0
            try clear c3b1
            try clear c4
            try clear c4b0
            try clear c4b1
            try clear p5
            try clear q5
            try clear hx5
            try clear qi5
            try clear hf5
            try clear c10
            try clear c10b0
            try clear hx5_0
            try clear p2
            try clear p5
            try clear q5
            obtain ⟨x3_2, x5_2, rfl, HA, HK2, HO_3, HB⟩ := hrel
            have hl3_2 := (Kd.R_reads' HO_3.out).1
            rw [hl3_2] at HO_3
            (try simp only [hl3_2])
            cases gk with
            | zero => exact absurd HA.out (by simp [purflingref04_parents.l1])
            | succ k2 =>
             have H := HA.out
             clear HA
             simp only [purflingref04_parents.l1] at H
             by_cases c11 : 0 ≤ x4_1
             · rw [if_pos c11] at H
               have c11b0 : decide (0 ≤ x4_1) = true := decide_eq_true c11
               clear c11
               by_cases c12 : x4_1 < (l0.length : Int)
               · rw [if_pos c12] at H
                 have c12b0 : decide (x4_1 < (l0.length : Int)) = true := decide_eq_true c12
                 clear c12
                 by_cases c13 : x5_2 < (((rd_T43 l0 x4_1).f1).length : Int)
                 · rw [if_pos c13] at H
                   have c13b0 : decide (x5_2 < (((rd_T43 l0 x4_1).f1).length : Int)) = true := decide_eq_true c13
                   clear c13
                   by_cases c14 : 0 ≤ x5_2
                   · rw [if_pos c14] at H
                     have c14b0 : decide (0 ≤ x5_2) = true := decide_eq_true c14
                     clear c14
                     by_cases c15 : 0 ≤ (rd ((rd_T43 l0 x4_1).f1) x5_2)
                     · rw [if_pos c15] at H
                       have c15b0 : decide (0 ≤ (rd ((rd_T43 l0 x4_1).f1) x5_2)) = true := decide_eq_true c15
                       clear c15
                       by_cases c16 : (rd ((rd_T43 l0 x4_1).f1) x5_2) < (x3_2.length : Int)
                       · rw [if_pos c16] at H
                         have c16b0 : decide ((rd ((rd_T43 l0 x4_1).f1) x5_2) < (x3_2.length : Int)) = true := decide_eq_true c16
                         clear c16
                         obtain ⟨y157, hy157⟩ : ∃ y_ : List Int, y_ = (x3_2.set ((rd ((rd_T43 l0 x4_1).f1) x5_2) : Int).toNat x4_1) := ⟨_, rfl⟩
                         replace H : (purflingref04_parents.l1 k2 l0 y157 x4_1 (wrap64 (x5_2 + 1))) = some r := by first | (rw [hy157]; with_reducible exact H) | (have H2_ := (Option.bind_some _ _).symm.trans H; rw [hy157]; with_reducible exact H2_) | (have H2_ := (Option.bind_some _ _).symm.trans H; with_reducible exact H2_) | with_reducible exact H | (rw [hy157]; exact H) | exact H
                         have Ny157 := Aside0.mk hy157
                         clear hy157
                         have H' := Aside0.mk H
                         clear H
                         have p154 : 0 ≤ (x4_1 : Int) := of_decide_eq_true (by first | (with_reducible assumption) | assumption)
                         have q154 : x4_1 < (l0.length : Int) := of_decide_eq_true (by first | (with_reducible assumption) | assumption)
                         obtain ⟨ad154, A154_1, c154_1, A154_31, c154_31, e154, hx154_0, hx154_1, hx154_2, hx154_3, hx154_4, hx154_5, hx154_6, hx154_7, hx154_8, hx154_9, hx154_10, hx154_11, hx154_12, hx154_13, hx154_14, hx154_15, hx154_16, hx154_17, hx154_18, hx154_19, hx154_20, hx154_21, hx154_22, hx154_23, hx154_24, hx154_25, hx154_26, hx154_27, hx154_28, hx154_29, hx154_30, hx154_31, hx154_32, hx154_33, hl154_1, hi154_1, hl154_31, hi154_31⟩ := at_T43 HR0.out x4_1 p154 q154
                         cases e154
                         replace hx154_0 := (HB.out.cell (World.block_lt_of_cell? w _ hx154_0)).trans hx154_0
                         replace hx154_1 := (HB.out.cell (World.block_lt_of_cell? w _ hx154_1)).trans hx154_1
                         replace hx154_2 := (HB.out.cell (World.block_lt_of_cell? w _ hx154_2)).trans hx154_2
                         replace hx154_3 := (HB.out.cell (World.block_lt_of_cell? w _ hx154_3)).trans hx154_3
                         replace hx154_4 := (HB.out.cell (World.block_lt_of_cell? w _ hx154_4)).trans hx154_4
                         replace hx154_5 := (HB.out.cell (World.block_lt_of_cell? w _ hx154_5)).trans hx154_5
                         replace hx154_6 := (HB.out.cell (World.block_lt_of_cell? w _ hx154_6)).trans hx154_6
                         replace hx154_7 := (HB.out.cell (World.block_lt_of_cell? w _ hx154_7)).trans hx154_7
                         replace hx154_8 := (HB.out.cell (World.block_lt_of_cell? w _ hx154_8)).trans hx154_8
                         replace hx154_9 := (HB.out.cell (World.block_lt_of_cell? w _ hx154_9)).trans hx154_9
                         replace hx154_10 := (HB.out.cell (World.block_lt_of_cell? w _ hx154_10)).trans hx154_10
                         replace hx154_11 := (HB.out.cell (World.block_lt_of_cell? w _ hx154_11)).trans hx154_11
                         replace hx154_12 := (HB.out.cell (World.block_lt_of_cell? w _ hx154_12)).trans hx154_12
                         replace hx154_13 := (HB.out.cell (World.block_lt_of_cell? w _ hx154_13)).trans hx154_13
                         replace hx154_14 := (HB.out.cell (World.block_lt_of_cell? w _ hx154_14)).trans hx154_14
                         replace hx154_15 := (HB.out.cell (World.block_lt_of_cell? w _ hx154_15)).trans hx154_15
                         replace hx154_16 := (HB.out.cell (World.block_lt_of_cell? w _ hx154_16)).trans hx154_16
                         replace hx154_17 := (HB.out.cell (World.block_lt_of_cell? w _ hx154_17)).trans hx154_17
                         replace hx154_18 := (HB.out.cell (World.block_lt_of_cell? w _ hx154_18)).trans hx154_18
                         replace hx154_19 := (HB.out.cell (World.block_lt_of_cell? w _ hx154_19)).trans hx154_19
                         replace hx154_20 := (HB.out.cell (World.block_lt_of_cell? w _ hx154_20)).trans hx154_20
                         replace hx154_21 := (HB.out.cell (World.block_lt_of_cell? w _ hx154_21)).trans hx154_21
                         replace hx154_22 := (HB.out.cell (World.block_lt_of_cell? w _ hx154_22)).trans hx154_22
                         replace hx154_23 := (HB.out.cell (World.block_lt_of_cell? w _ hx154_23)).trans hx154_23
                         replace hx154_24 := (HB.out.cell (World.block_lt_of_cell? w _ hx154_24)).trans hx154_24
                         replace hx154_25 := (HB.out.cell (World.block_lt_of_cell? w _ hx154_25)).trans hx154_25
                         replace hx154_26 := (HB.out.cell (World.block_lt_of_cell? w _ hx154_26)).trans hx154_26
                         replace hx154_27 := (HB.out.cell (World.block_lt_of_cell? w _ hx154_27)).trans hx154_27
                         replace hx154_28 := (HB.out.cell (World.block_lt_of_cell? w _ hx154_28)).trans hx154_28
                         replace hx154_29 := (HB.out.cell (World.block_lt_of_cell? w _ hx154_29)).trans hx154_29
                         replace hx154_30 := (HB.out.cell (World.block_lt_of_cell? w _ hx154_30)).trans hx154_30
                         replace hx154_31 := (HB.out.cell (World.block_lt_of_cell? w _ hx154_31)).trans hx154_31
                         replace hx154_32 := (HB.out.cell (World.block_lt_of_cell? w _ hx154_32)).trans hx154_32
                         replace hx154_33 := (HB.out.cell (World.block_lt_of_cell? w _ hx154_33)).trans hx154_33
                         have HR154_1 := Aside0.mk hi154_1
                         have HC154_1 := Aside0.mk hl154_1
                         clear hi154_1 hl154_1
                         have HR154_31 := Aside0.mk hi154_31
                         have HC154_31 := Aside0.mk hl154_31
                         clear hi154_31 hl154_31
                         replace p154 := eq_true p154
                         replace q154 := eq_true q154
                         have p155 : 0 ≤ (x4_1 : Int) := of_decide_eq_true (by first | (with_reducible assumption) | assumption)
                         have q155 : x4_1 < (l0.length : Int) := of_decide_eq_true (by first | (with_reducible assumption) | assumption)
                         obtain ⟨ad155, A155_1, c155_1, A155_31, c155_31, e155, hx155_0, hx155_1, hx155_2, hx155_3, hx155_4, hx155_5, hx155_6, hx155_7, hx155_8, hx155_9, hx155_10, hx155_11, hx155_12, hx155_13, hx155_14, hx155_15, hx155_16, hx155_17, hx155_18, hx155_19, hx155_20, hx155_21, hx155_22, hx155_23, hx155_24, hx155_25, hx155_26, hx155_27, hx155_28, hx155_29, hx155_30, hx155_31, hx155_32, hx155_33, hl155_1, hi155_1, hl155_31, hi155_31⟩ := at_T43 HR0.out x4_1 p155 q155
                         obtain rfl : ad154 = ad155 := (by injection e155)
                         replace hx155_0 := (HB.out.cell (World.block_lt_of_cell? w _ hx155_0)).trans hx155_0
                         replace hx155_1 := (HB.out.cell (World.block_lt_of_cell? w _ hx155_1)).trans hx155_1
                         replace hx155_2 := (HB.out.cell (World.block_lt_of_cell? w _ hx155_2)).trans hx155_2
                         replace hx155_3 := (HB.out.cell (World.block_lt_of_cell? w _ hx155_3)).trans hx155_3
                         replace hx155_4 := (HB.out.cell (World.block_lt_of_cell? w _ hx155_4)).trans hx155_4
                         replace hx155_5 := (HB.out.cell (World.block_lt_of_cell? w _ hx155_5)).trans hx155_5
                         replace hx155_6 := (HB.out.cell (World.block_lt_of_cell? w _ hx155_6)).trans hx155_6
                         replace hx155_7 := (HB.out.cell (World.block_lt_of_cell? w _ hx155_7)).trans hx155_7
                         replace hx155_8 := (HB.out.cell (World.block_lt_of_cell? w _ hx155_8)).trans hx155_8
                         replace hx155_9 := (HB.out.cell (World.block_lt_of_cell? w _ hx155_9)).trans hx155_9
                         replace hx155_10 := (HB.out.cell (World.block_lt_of_cell? w _ hx155_10)).trans hx155_10
                         replace hx155_11 := (HB.out.cell (World.block_lt_of_cell? w _ hx155_11)).trans hx155_11
                         replace hx155_12 := (HB.out.cell (World.block_lt_of_cell? w _ hx155_12)).trans hx155_12
                         replace hx155_13 := (HB.out.cell (World.block_lt_of_cell? w _ hx155_13)).trans hx155_13
                         replace hx155_14 := (HB.out.cell (World.block_lt_of_cell? w _ hx155_14)).trans hx155_14
                         replace hx155_15 := (HB.out.cell (World.block_lt_of_cell? w _ hx155_15)).trans hx155_15
                         replace hx155_16 := (HB.out.cell (World.block_lt_of_cell? w _ hx155_16)).trans hx155_16
                         replace hx155_17 := (HB.out.cell (World.block_lt_of_cell? w _ hx155_17)).trans hx155_17
                         replace hx155_18 := (HB.out.cell (World.block_lt_of_cell? w _ hx155_18)).trans hx155_18
                         replace hx155_19 := (HB.out.cell (World.block_lt_of_cell? w _ hx155_19)).trans hx155_19
                         replace hx155_20 := (HB.out.cell (World.block_lt_of_cell? w _ hx155_20)).trans hx155_20
                         replace hx155_21 := (HB.out.cell (World.block_lt_of_cell? w _ hx155_21)).trans hx155_21
                         replace hx155_22 := (HB.out.cell (World.block_lt_of_cell? w _ hx155_22)).trans hx155_22
                         replace hx155_23 := (HB.out.cell (World.block_lt_of_cell? w _ hx155_23)).trans hx155_23
                         replace hx155_24 := (HB.out.cell (World.block_lt_of_cell? w _ hx155_24)).trans hx155_24
                         replace hx155_25 := (HB.out.cell (World.block_lt_of_cell? w _ hx155_25)).trans hx155_25
                         replace hx155_26 := (HB.out.cell (World.block_lt_of_cell? w _ hx155_26)).trans hx155_26
                         replace hx155_27 := (HB.out.cell (World.block_lt_of_cell? w _ hx155_27)).trans hx155_27
                         replace hx155_28 := (HB.out.cell (World.block_lt_of_cell? w _ hx155_28)).trans hx155_28
                         replace hx155_29 := (HB.out.cell (World.block_lt_of_cell? w _ hx155_29)).trans hx155_29
                         replace hx155_30 := (HB.out.cell (World.block_lt_of_cell? w _ hx155_30)).trans hx155_30
                         replace hx155_31 := (HB.out.cell (World.block_lt_of_cell? w _ hx155_31)).trans hx155_31
                         replace hx155_32 := (HB.out.cell (World.block_lt_of_cell? w _ hx155_32)).trans hx155_32
                         replace hx155_33 := (HB.out.cell (World.block_lt_of_cell? w _ hx155_33)).trans hx155_33
                         have HR155_1 := Aside0.mk hi155_1
                         have HC155_1 := Aside0.mk hl155_1
                         clear hi155_1 hl155_1
                         have HR155_31 := Aside0.mk hi155_31
                         have HC155_31 := Aside0.mk hl155_31
                         clear hi155_31 hl155_31
                         replace p155 := eq_true p155
                         replace q155 := eq_true q155
                         have ea_ := Option.some.inj (hx154_1.symm.trans hx155_1)
                         injection ea_ with ea_ en_ ec_
                         subst ea_
                         subst ec_
                         clear en_
                         have ea_ := Option.some.inj (hx154_31.symm.trans hx155_31)
                         injection ea_ with ea_ en_ ec_
                         subst ea_
                         subst ec_
                         clear en_
                         have p156 : 0 ≤ (x5_2 : Int) := of_decide_eq_true (by first | (with_reducible assumption) | assumption)
                         have q156 : x5_2 < (((rd_T43 l0 x4_1).f1).length : Int) := of_decide_eq_true (by first | (with_reducible assumption) | assumption)
                         obtain ⟨ad156, e156, hx156_0⟩ := Kd.at_int HR155_1.out x5_2 p156 q156
                         cases e156
                         replace hx156_0 := (HB.out.cell (World.block_lt_of_cell? w _ hx156_0)).trans hx156_0
                         replace p156 := eq_true p156
                         replace q156 := eq_true q156
                         have p17 : 0 ≤ ((rd ((rd_T43 l0 x4_1).f1) x5_2) : Int) := of_decide_eq_true (by first | (with_reducible assumption) | assumption)
                         have q17 : ((rd ((rd_T43 l0 x4_1).f1) x5_2) : Int) < ((x3_2.length : Int) : Int) := of_decide_eq_true (by first | (with_reducible assumption) | assumption)
                         obtain ⟨hx17_0, hf17_0⟩ := Kd.R_celln 0 HO_3.out ((rd ((rd_T43 l0 x4_1).f1) x5_2) : Int) p17 q17
                         replace p17 := eq_true p17
                         replace q17 := eq_true q17
                         have HP18 := Kd.R_putg HO_3.out ((rd ((rd_T43 l0 x4_1).f1) x5_2) : Int) x4_1
                         go_wp2_with (first | ((with_reducible refine gate_store (t := 3) (p := 37) rfl ?_); refine store_event (t := 3) (p := 37) (v := ?vo_w19) (w1 := (wr.setCell ⟨go5, ((rd ((rd_T43 l0 x4_1).f1) x5_2) : Int).toNat, none⟩ (.int .i64 x4_1))) ?hg ?ho ?hn ?hr ?_; (case ho => rfl); (case hg => rfl); (case hn => rfl); (case hr => first | (go_simp; done) | (go_simp; rfl)); intro w19 hw; have hg : wr.grownBy w19 (some go5) := (by rw [hw]; exact HP18.2); have hp_ : Kd.R (Kd.int .i64) 3 w19 w.heap.size (fun _ => True) (.slice (some ⟨go5, 0, none⟩) x3_2.length co5) y157 := (by rw [hw, Ny157.out]; exact HP18.1); clear HP18; have n0_ := Aside0.mk (hp_); have n1_ := Aside0.mk ((by rw [hw]; exact below_set (HB.out) GB5.out : Below w.heap.size w w19)); clear HO_3; clear HB; have HO_3 := n0_; have HB := n1_; clear n0_ n1_; clear hg hw hp_))
                         (try simp only [← hl3_2])
                         go_roundg k2
                         case measure => have := HK1.out; have := HK2.out; omega
                         case rel => exact ⟨(y157), (wrap64 (x5_2 + 1)), (by first | rfl | (simp; done) | (simp [*]; done)), H', ⟨by have := HK1.out; have := HK2.out; omega⟩, ⟨by (try simp only [hl3_1]); (try simp only [hl3_2]); (with_reducible repeat (first | apply Kd.R_alloc | apply Kd.R_drewN | apply Kd.R_drew)); exact HO_3.out⟩, ⟨by repeat (first | exact HB.out | apply below_alloc | apply pw_below_drewN | apply below_drew1)⟩⟩
                       · rw [if_neg c16] at H
                         exact absurd H (by simp)
                     · rw [if_neg c15] at H
                       exact absurd H (by simp)
                   · rw [if_neg c14] at H
                     exact absurd H (by simp)
                 · rw [if_neg c13] at H
                   have c13b0 : decide (x5_2 < (((rd_T43 l0 x4_1).f1).length : Int)) = false := decide_eq_false c13
                   clear c13
                   have H' := Aside0.mk H
                   clear H
                   have p154 : 0 ≤ (x4_1 : Int) := of_decide_eq_true (by first | (with_reducible assumption) | assumption)
                   have q154 : x4_1 < (l0.length : Int) := of_decide_eq_true (by first | (with_reducible assumption) | assumption)
                   obtain ⟨ad154, A154_1, c154_1, A154_31, c154_31, e154, hx154_0, hx154_1, hx154_2, hx154_3, hx154_4, hx154_5, hx154_6, hx154_7, hx154_8, hx154_9, hx154_10, hx154_11, hx154_12, hx154_13, hx154_14, hx154_15, hx154_16, hx154_17, hx154_18, hx154_19, hx154_20, hx154_21, hx154_22, hx154_23, hx154_24, hx154_25, hx154_26, hx154_27, hx154_28, hx154_29, hx154_30, hx154_31, hx154_32, hx154_33, hl154_1, hi154_1, hl154_31, hi154_31⟩ := at_T43 HR0.out x4_1 p154 q154
                   cases e154
                   replace hx154_0 := (HB.out.cell (World.block_lt_of_cell? w _ hx154_0)).trans hx154_0
                   replace hx154_1 := (HB.out.cell (World.block_lt_of_cell? w _ hx154_1)).trans hx154_1
                   replace hx154_2 := (HB.out.cell (World.block_lt_of_cell? w _ hx154_2)).trans hx154_2
                   replace hx154_3 := (HB.out.cell (World.block_lt_of_cell? w _ hx154_3)).trans hx154_3
                   replace hx154_4 := (HB.out.cell (World.block_lt_of_cell? w _ hx154_4)).trans hx154_4
                   replace hx154_5 := (HB.out.cell (World.block_lt_of_cell? w _ hx154_5)).trans hx154_5
                   replace hx154_6 := (HB.out.cell (World.block_lt_of_cell? w _ hx154_6)).trans hx154_6
                   replace hx154_7 := (HB.out.cell (World.block_lt_of_cell? w _ hx154_7)).trans hx154_7
                   replace hx154_8 := (HB.out.cell (World.block_lt_of_cell? w _ hx154_8)).trans hx154_8
                   replace hx154_9 := (HB.out.cell (World.block_lt_of_cell? w _ hx154_9)).trans hx154_9
                   replace hx154_10 := (HB.out.cell (World.block_lt_of_cell? w _ hx154_10)).trans hx154_10
                   replace hx154_11 := (HB.out.cell (World.block_lt_of_cell? w _ hx154_11)).trans hx154_11
                   replace hx154_12 := (HB.out.cell (World.block_lt_of_cell? w _ hx154_12)).trans hx154_12
                   replace hx154_13 := (HB.out.cell (World.block_lt_of_cell? w _ hx154_13)).trans hx154_13
                   replace hx154_14 := (HB.out.cell (World.block_lt_of_cell? w _ hx154_14)).trans hx154_14
                   replace hx154_15 := (HB.out.cell (World.block_lt_of_cell? w _ hx154_15)).trans hx154_15
                   replace hx154_16 := (HB.out.cell (World.block_lt_of_cell? w _ hx154_16)).trans hx154_16
                   replace hx154_17 := (HB.out.cell (World.block_lt_of_cell? w _ hx154_17)).trans hx154_17
                   replace hx154_18 := (HB.out.cell (World.block_lt_of_cell? w _ hx154_18)).trans hx154_18
                   replace hx154_19 := (HB.out.cell (World.block_lt_of_cell? w _ hx154_19)).trans hx154_19
                   replace hx154_20 := (HB.out.cell (World.block_lt_of_cell? w _ hx154_20)).trans hx154_20
                   replace hx154_21 := (HB.out.cell (World.block_lt_of_cell? w _ hx154_21)).trans hx154_21
                   replace hx154_22 := (HB.out.cell (World.block_lt_of_cell? w _ hx154_22)).trans hx154_22
                   replace hx154_23 := (HB.out.cell (World.block_lt_of_cell? w _ hx154_23)).trans hx154_23
                   replace hx154_24 := (HB.out.cell (World.block_lt_of_cell? w _ hx154_24)).trans hx154_24
                   replace hx154_25 := (HB.out.cell (World.block_lt_of_cell? w _ hx154_25)).trans hx154_25
                   replace hx154_26 := (HB.out.cell (World.block_lt_of_cell? w _ hx154_26)).trans hx154_26
                   replace hx154_27 := (HB.out.cell (World.block_lt_of_cell? w _ hx154_27)).trans hx154_27
                   replace hx154_28 := (HB.out.cell (World.block_lt_of_cell? w _ hx154_28)).trans hx154_28
                   replace hx154_29 := (HB.out.cell (World.block_lt_of_cell? w _ hx154_29)).trans hx154_29
                   replace hx154_30 := (HB.out.cell (World.block_lt_of_cell? w _ hx154_30)).trans hx154_30
                   replace hx154_31 := (HB.out.cell (World.block_lt_of_cell? w _ hx154_31)).trans hx154_31
                   replace hx154_32 := (HB.out.cell (World.block_lt_of_cell? w _ hx154_32)).trans hx154_32
                   replace hx154_33 := (HB.out.cell (World.block_lt_of_cell? w _ hx154_33)).trans hx154_33
                   have HR154_1 := Aside0.mk hi154_1
                   have HC154_1 := Aside0.mk hl154_1
                   clear hi154_1 hl154_1
                   have HR154_31 := Aside0.mk hi154_31
                   have HC154_31 := Aside0.mk hl154_31
                   clear hi154_31 hl154_31
                   replace p154 := eq_true p154
                   replace q154 := eq_true q154
                   go_wp2
                   (try simp only [← hl3_1, ← hl3_2])
                   go_roundg k2
                   case measure => have := HK1.out; have := HK2.out; omega
                   case rel => exact ⟨(x3_2), (wrap64 (x4_1 + 1)), (by first | rfl | (simp; done) | (simp [*]; done)), H', ⟨by have := HK1.out; have := HK2.out; omega⟩, ⟨by (try simp only [hl3_1]); (try simp only [hl3_2]); (with_reducible repeat (first | apply Kd.R_alloc | apply Kd.R_drewN | apply Kd.R_drew)); exact HO_3.out⟩, ⟨by repeat (first | exact HB.out | apply below_alloc | apply pw_below_drewN | apply below_drew1)⟩⟩
               · rw [if_neg c12] at H
                 exact absurd H (by simp)
             · rw [if_neg c11] at H
               exact absurd H (by simp)
         · rw [if_neg c10] at H
           have c10b0 : decide (x4_1 < (l0.length : Int)) = false := decide_eq_false c10
           clear c10
           obtain rfl := Option.some.inj H
           go_wp2
           go_ret
           exact ⟨_, by first | rfl | (simp [errW_none, errW_some] <;> rfl) | (simp [*, errW_none, errW_some] <;> rfl), by (with_reducible repeat (first | apply Kd.R_alloc | apply Kd.R_drewN | apply Kd.R_drew)); exact HO_3.out, by repeat (first | exact HB.out | apply below_alloc | apply pw_below_drewN | apply below_drew1)⟩
     · rw [if_neg c4] at H
       exact absurd H (by simp)
   · rw [if_neg c3] at H
     exact absurd H (by simp)
 · rw [if_neg c2] at H
   exact absurd H (by simp)
end Go.Proofs.Ytjhpkikgajgdmaa.K
