-- PRINTED by print.py (a twelfth state) out of the translation. Not trusted: Lean checks it.
import Derived.Test.YtdmnaehgngpikaaK0
namespace Go.Proofs.Ytdmnaehgngpikaa.K
open Go.RowKit Go.Proofs.YtdmnaehgngpikaaW.PrintWords Go.Proofs.YtdmnaehgngpikaaW.PrintLast Go.Proofs.YtdmnaehgngpikaaW.PrintMore
attribute [local go_sem] max2_int min2_int max_two min_two max_three min_three max_four min_four   -- for this text's walks alone
set_option linter.unusedVariables false
set_option linter.unusedSimpArgs false
/-! ### purflingref04_parents: function 51 -/
mutual
def purflingref04_parents.l0 : Nat → List (S48) → List Int → Int → Option (List Int)
 | 0, _, _, _ => none
 | k + 1, x0, x3, x4 => if x4 < (x0.length : Int) then (purflingref04_parents.l1 k x0 x3 x4 0) else (some x3)
def purflingref04_parents.l1 : Nat → List (S48) → List Int → Int → Int → Option (List Int)
 | 0, _, _, _, _ => none
 | k + 1, x0, x3, x4, x5 => if 0 ≤ x4 then (if x4 < (x0.length : Int) then (if x5 < (((rd_T48 x0 x4).f1).length : Int) then (if 0 ≤ x5 then (if 0 ≤ (rd ((rd_T48 x0 x4).f1) x5) then (if (rd ((rd_T48 x0 x4).f1) x5) < (x3.length : Int) then (purflingref04_parents.l1 k x0 (x3.set ((rd ((rd_T48 x0 x4).f1) x5) : Int).toNat x4) x4 (wrap64 (x5 + 1))) else (none)) else (none)) else (none)) else (purflingref04_parents.l0 k x0 x3 (wrap64 (x4 + 1)))) else (none)) else (none)
end
def purflingref04_parents.f (k : Nat) (l0 : List (S48)) : Option (List Int) := if 0 ≤ (l0.length : Int) then (if ((l0.length : Int) : Int).toNat ≤ 35184372088832 then ((some (List.replicate ((l0.length : Int) : Int).toNat 0 : List Int)).bind fun y244 => (if 0 < (y244.length : Int) then (purflingref04_parents.l0 k l0 (y244.set (0 : Int).toNat (-1)) 0) else (none))) else (none)) else (none)
set_option maxHeartbeats 8000000 in
set_option maxRecDepth 100000 in
theorem purflingref04_parents.calls (k : Nat) (A0 : Option Addr) (c0 : Nat) (l0 : List (S48)) (r : List Int) (w : World) (hr0 : Kd.C k48 w A0 l0.length l0) (hc0 : l0.length ≤ c0) (h : purflingref04_parents.f k l0 = some r) :
 Calls Try.prog 51 #[.slice A0 l0.length c0] w fun e w' => ∃ v0_ : Value, e = .returned (v0_) ∧ Kd.R (Kd.int .i64) 3 w' w.heap.size (fun _ => True) v0_ r ∧ Below w.heap.size w w' := by
 have HR0 := Aside0.mk hr0
 have HC0 := Aside0.mk hc0
 clear hr0 hc0
 have HB := Aside0.mk (Below.refl w.heap.size w)
 have H : (if 0 ≤ (l0.length : Int) then (if ((l0.length : Int) : Int).toNat ≤ 35184372088832 then ((some (List.replicate ((l0.length : Int) : Int).toNat 0 : List Int)).bind fun y244 => (if 0 < (y244.length : Int) then (purflingref04_parents.l0 k l0 (y244.set (0 : Int).toNat (-1)) 0) else (none))) else (none)) else (none)) = some r := h
 clear h
 by_cases c2 : 0 ≤ (l0.length : Int)
 · rw [if_pos c2] at H
   have c2b0 := eq_true c2
   have c2b1 : decide (0 ≤ (l0.length : Int)) = true := decide_eq_true c2
   clear c2
   by_cases c3 : ((l0.length : Int) : Int).toNat ≤ 35184372088832
   · rw [if_pos c3] at H
     have c3b0 := eq_true c3
     have c3b1 : decide (((l0.length : Int) : Int).toNat ≤ 35184372088832) = true := decide_eq_true c3
     clear c3
     obtain ⟨y244, hy244⟩ : ∃ y_ : List Int, y_ = (List.replicate ((l0.length : Int) : Int).toNat 0) := ⟨_, rfl⟩
     replace H : (if 0 < (y244.length : Int) then (purflingref04_parents.l0 k l0 (y244.set (0 : Int).toNat (-1)) 0) else (none)) = some r := by first | (rw [hy244]; with_reducible exact H) | (have H2_ := (Option.bind_some _ _).symm.trans H; rw [hy244]; with_reducible exact H2_) | (have H2_ := (Option.bind_some _ _).symm.trans H; with_reducible exact H2_) | with_reducible exact H | (rw [hy244]; exact H) | exact H
     have Ny244 := Aside0.mk hy244
     clear hy244
     by_cases c4 : 0 < (y244.length : Int)
     · rw [if_pos c4] at H
       have c4b0 : decide (0 < (y244.length : Int)) = true := decide_eq_true c4
       have c4b1 : decide (0 < y244.length) = true := decide_eq_true (by omega)
       clear c4
       obtain ⟨y247, hy247⟩ : ∃ y_ : List Int, y_ = (y244.set (0 : Int).toNat (-1)) := ⟨_, rfl⟩
       replace H : (purflingref04_parents.l0 k l0 y247 0) = some r := by first | (rw [hy247]; with_reducible exact H) | (have H2_ := (Option.bind_some _ _).symm.trans H; rw [hy247]; with_reducible exact H2_) | (have H2_ := (Option.bind_some _ _).symm.trans H; with_reducible exact H2_) | with_reducible exact H | (rw [hy247]; exact H) | exact H
       have Ny247 := Aside0.mk hy247
       clear hy247
       have H' := Aside0.mk H
       clear H
       go_enter Try.func51, Try.ntmps51
       go_wp2_with (first | ((with_reducible refine gate_dst (N := 8) rfl ?_); refine Kd.R_make (Kd.int .i64) _ 3 rfl (N := 8) rfl 33 _ _ rfl (l0.length : Int) rfl rfl Try.underlying33 (.int .i64 0) 8 info3 rfl (by decide) (by omega) 0 (ok := fun _ => True) (okp := fun _ => True) rfl (fun _ hk => hk) trivial (of_decide_eq_true (by first | (with_reducible assumption) | assumption)) (Nat.le_trans (Nat.mul_le_mul_right _ (of_decide_eq_true (by first | (with_reducible assumption) | assumption) : (l0.length : Int).toNat ≤ 35184372088832)) (by omega)) (Below.refl _ _) (Nat.le_refl _) ?_; intro v245 w6 ho7 hb hg_ hnew_; clear hg_ hnew_; (first | rw [← Ny244.out] at ho7 | (simp only [Int.reduceToNat] at ho7; rw [← Ny244.out] at ho7)); have n0_ := Aside0.mk (Kd.R_lower ho7 (below_size (by repeat (first | exact HB.out | apply below_alloc | apply pw_below_drewN | apply below_drew1)))); have n1_ := Aside0.mk (below_step (by repeat (first | exact HB.out | apply below_alloc | apply pw_below_drewN | apply below_drew1)) hb); clear HB; have HO246 := n0_; have HB := n1_; clear n0_ n1_; clear hb ho7; have p5 : 0 ≤ (0 : Int) := (by omega); have q5 : (0 : Int) < ((y244.length : Int) : Int) := of_decide_eq_true (by first | (with_reducible assumption) | assumption); have qi5 : (0 < y244.length) = True := eq_true (by omega); obtain ⟨go5, co5, eo5, gb5, gl5, cl5, HG5⟩ := Kd.R_form HO246.out (by omega); (first | cases eo5 | (injection eo5 with ea_ en_ ec_; (first | subst ea_ | (injection ea_ with ea_; subst ea_)); subst ec_; clear en_)); have GB5 := Aside0.mk gb5; have GG5 := Aside0.mk HG5; clear gb5 gl5 HG5; obtain ⟨hx5_0, hf5_0⟩ := Kd.R_celln 0 HO246.out (0 : Int) p5 q5; (try rw [show ((0 : Int)).toNat = 0 from rfl] at hx5_0); (try simp only [Nat.reduceMul, Nat.zero_mul, Nat.zero_add, Nat.reduceAdd] at hx5_0); (try rw [show ((0 : Int)).toNat = 0 from rfl] at hf5_0); (try simp only [Nat.reduceMul, Nat.zero_mul, Nat.zero_add, Nat.reduceAdd] at hf5_0); replace p5 := eq_true p5; replace q5 := eq_true q5; obtain ⟨hy8_, hz8_⟩ := Kd.R_celln 0 HO246.out (0 : Int) (by omega) (of_decide_eq_true (by first | (with_reducible assumption) | assumption)); (try simp only [Int.reduceToNat, Int.toNat_zero, Int.toNat_ofNat, Nat.reduceMul, Nat.zero_mul, Nat.zero_add] at hy8_ hz8_); (try rw [show ((0 : Int)).toNat = 0 from rfl] at hy8_); (try rw [show ((0 : Int)).toNat = 0 from rfl] at hz8_); have HP8 := Kd.R_putg HO246.out (0 : Int) (-1)) | ((with_reducible refine gate_store (t := 3) (p := 10) rfl ?_); refine store_event (t := 3) (p := 10) (v := ?vo_w9) (w1 := (w6.setCell ⟨go5, (0 : Int).toNat, none⟩ (.int .i64 (-1)))) ?hg ?ho ?hn ?hr ?_; (case ho => rfl); (case hg => rfl); (case hn => rfl); (case hr => first | (go_simp; done) | (go_simp; rfl)); intro w9 hw; have hg : w6.grownBy w9 (some go5) := (by rw [hw]; exact HP8.2); have hp_ : Kd.R (Kd.int .i64) 3 w9 w.heap.size (fun _ => True) (.slice (some ⟨go5, 0, none⟩) y244.length co5) y247 := (by rw [hw, Ny247.out]; exact HP8.1); clear HP8; have n0_ := Aside0.mk (hp_); have n1_ := Aside0.mk ((by rw [hw]; exact below_set (HB.out) GB5.out : Below w.heap.size w w9)); clear HO246; clear HB; have HO246 := n0_; have HB := n1_; clear n0_ n1_; clear hg hw hp_))
       go_loopg [4] k (fun kq v4 w' => ∃ (x3_1 : List Int) (x4_1 : Int), v4 = .int .i64 x4_1 ∧ Aside0 (purflingref04_parents.l0 kq l0 x3_1 x4_1 = some r) ∧ Aside0 (kq ≤ k) ∧ Aside0 (Kd.R (Kd.int .i64) 3 w' w.heap.size (fun _ => True) (.slice (some ⟨go5, 0, none⟩) y244.length co5) x3_1) ∧ Aside0 (Below w.heap.size w w'))
       case atStart => exact ⟨(y247), (0), (by first | rfl | (simp; done) | (simp [*]; done)), H', ⟨Nat.le_refl _⟩, ⟨by (with_reducible repeat (first | apply Kd.R_alloc | apply Kd.R_drewN | apply Kd.R_drew)); exact HO246.out⟩, ⟨by repeat (first | exact HB.out | apply below_alloc | apply pw_below_drewN | apply below_drew1)⟩⟩
       case round =>
        clear H'
        try clear c2
        try clear c2b0
        try clear c2b1
        try clear p2
        try clear c3
        try clear c3b0
        try clear c3b1
        try clear c4
        try clear c4b0
        try clear c4b1
        try clear c5
        try clear p5
        try clear q5
        try clear hx5
        try clear qi5
        try clear hf5
        try clear hx5_0
        try clear p5
        try clear q5
        obtain ⟨x3_1, x4_1, rfl, HA, HK1, HO_3, HB⟩ := hrel
        have hl3_1 := (Kd.R_reads' HO_3.out).1
        rw [hl3_1] at HO_3
        (try simp only [hl3_1])
        cases gk with
        | zero => exact absurd HA.out (by simp [purflingref04_parents.l0])
        | succ k1 =>
         have H := HA.out
         clear HA
         simp only [purflingref04_parents.l0] at H
         by_cases c10 : x4_1 < (l0.length : Int)
         · rw [if_pos c10] at H
           have c10b0 : decide (x4_1 < (l0.length : Int)) = true := decide_eq_true c10
           clear c10
           have H' := Aside0.mk H
           clear H
           go_wp2
           go_loopg [5] k1 (fun kq v5 w' => ∃ (x3_2 : List Int) (x5_2 : Int), v5 = .int .i64 x5_2 ∧ Aside0 (purflingref04_parents.l1 kq l0 x3_2 x4_1 x5_2 = some r) ∧ Aside0 (kq ≤ k1) ∧ Aside0 (Kd.R (Kd.int .i64) 3 w' w.heap.size (fun _ => True) (.slice (some ⟨go5, 0, none⟩) x3_1.length co5) x3_2) ∧ Aside0 (Below w.heap.size w w'))
           case atStart => exact ⟨(x3_1), (0), (by first | rfl | (simp; done) | (simp [*]; done)), H', ⟨Nat.le_refl _⟩, ⟨by (try simp only [hl3_1]); (with_reducible repeat (first | apply Kd.R_alloc | apply Kd.R_drewN | apply Kd.R_drew)); exact HO_3.out⟩, ⟨by repeat (first | exact HB.out | apply below_alloc | apply pw_below_drewN | apply below_drew1)⟩⟩
           case round =>
            clear H'
            try clear c1
            try clear c2
            try clear c2b0
            try clear c2b1
            try clear p2
            try clear c3
            try clear c3b0
            try clear c3b1
            try clear c4
            try clear c4b0
            try clear c4b1
            try clear c5
            try clear p5
            try clear q5
            try clear hx5
            try clear qi5
            try clear hf5
            try clear c10
            try clear c10b0
            try clear hx5_0
            try clear p2
            try clear p5
            try clear q5
            obtain ⟨x3_2, x5_2, rfl, HA, HK2, HO_3, HB⟩ := hrel
            have hl3_2 := (Kd.R_reads' HO_3.out).1
            rw [hl3_2] at HO_3
            (try simp only [hl3_2])
            cases gk with
            | zero => exact absurd HA.out (by simp [purflingref04_parents.l1])
            | succ k2 =>
             have H := HA.out
             clear HA
             simp only [purflingref04_parents.l1] at H
             by_cases c11 : 0 ≤ x4_1
             · rw [if_pos c11] at H
               have c11b0 : decide (0 ≤ x4_1) = true := decide_eq_true c11
               clear c11
               by_cases c12 : x4_1 < (l0.length : Int)
               · rw [if_pos c12] at H
                 have c12b0 : decide (x4_1 < (l0.length : Int)) = true := decide_eq_true c12
                 clear c12
                 by_cases c13 : x5_2 < (((rd_T48 l0 x4_1).f1).length : Int)
                 · rw [if_pos c13] at H
                   have c13b0 : decide (x5_2 < (((rd_T48 l0 x4_1).f1).length : Int)) = true := decide_eq_true c13
                   clear c13
                   by_cases c14 : 0 ≤ x5_2
                   · rw [if_pos c14] at H
                     have c14b0 : decide (0 ≤ x5_2) = true := decide_eq_true c14
                     clear c14
                     by_cases c15 : 0 ≤ (rd ((rd_T48 l0 x4_1).f1) x5_2)
                     · rw [if_pos c15] at H
                       have c15b0 : decide (0 ≤ (rd ((rd_T48 l0 x4_1).f1) x5_2)) = true := decide_eq_true c15
                       clear c15
                       by_cases c16 : (rd ((rd_T48 l0 x4_1).f1) x5_2) < (x3_2.length : Int)
                       · rw [if_pos c16] at H
                         have c16b0 : decide ((rd ((rd_T48 l0 x4_1).f1) x5_2) < (x3_2.length : Int)) = true := decide_eq_true c16
                         clear c16
                         obtain ⟨y251, hy251⟩ : ∃ y_ : List Int, y_ = (x3_2.set ((rd ((rd_T48 l0 x4_1).f1) x5_2) : Int).toNat x4_1) := ⟨_, rfl⟩
                         replace H : (purflingref04_parents.l1 k2 l0 y251 x4_1 (wrap64 (x5_2 + 1))) = some r := by first | (rw [hy251]; with_reducible exact H) | (have H2_ := (Option.bind_some _ _).symm.trans H; rw [hy251]; with_reducible exact H2_) | (have H2_ := (Option.bind_some _ _).symm.trans H; with_reducible exact H2_) | with_reducible exact H | (rw [hy251]; exact H) | exact H
                         have Ny251 := Aside0.mk hy251
                         clear hy251
                         have H' := Aside0.mk H
                         clear H
                         have p248 : 0 ≤ (x4_1 : Int) := of_decide_eq_true (by first | (with_reducible assumption) | assumption)
                         have q248 : x4_1 < (l0.length : Int) := of_decide_eq_true (by first | (with_reducible assumption) | assumption)
                         obtain ⟨ad248, A248_1, c248_1, A248_31, c248_31, e248, hx248_0, hx248_1, -, -, -, -, -, -, -, -, -, -, -, -, -, -, -, -, -, -, -, -, hx248_22, -, -, -, -, -, -, -, -, hx248_31, -, -, hl248_1, hi248_1, hl248_31, hi248_31⟩ := at_T48 HR0.out x4_1 p248 q248
                         cases e248
                         replace hx248_0 := (HB.out.cell (World.block_lt_of_cell? w _ hx248_0)).trans hx248_0
                         replace hx248_1 := (HB.out.cell (World.block_lt_of_cell? w _ hx248_1)).trans hx248_1
                         replace hx248_22 := (HB.out.cell (World.block_lt_of_cell? w _ hx248_22)).trans hx248_22
                         replace hx248_31 := (HB.out.cell (World.block_lt_of_cell? w _ hx248_31)).trans hx248_31
                         have HR248_1 := Aside0.mk hi248_1
                         have HC248_1 := Aside0.mk hl248_1
                         clear hi248_1 hl248_1
                         have HR248_31 := Aside0.mk hi248_31
                         have HC248_31 := Aside0.mk hl248_31
                         clear hi248_31 hl248_31
                         replace p248 := eq_true p248
                         replace q248 := eq_true q248
                         have p249 : 0 ≤ (x4_1 : Int) := of_decide_eq_true (by first | (with_reducible assumption) | assumption)
                         have q249 : x4_1 < (l0.length : Int) := of_decide_eq_true (by first | (with_reducible assumption) | assumption)
                         obtain ⟨ad249, A249_1, c249_1, A249_31, c249_31, e249, hx249_0, hx249_1, -, -, -, -, -, -, -, -, -, -, -, -, -, -, -, -, -, -, -, -, hx249_22, -, -, -, -, -, -, -, -, hx249_31, -, -, hl249_1, hi249_1, -, -⟩ := at_T48 HR0.out x4_1 p249 q249
                         obtain rfl : ad248 = ad249 := (by injection e249)
                         replace hx249_0 := (HB.out.cell (World.block_lt_of_cell? w _ hx249_0)).trans hx249_0
                         replace hx249_1 := (HB.out.cell (World.block_lt_of_cell? w _ hx249_1)).trans hx249_1
                         replace hx249_22 := (HB.out.cell (World.block_lt_of_cell? w _ hx249_22)).trans hx249_22
                         replace hx249_31 := (HB.out.cell (World.block_lt_of_cell? w _ hx249_31)).trans hx249_31
                         have HR249_1 := Aside0.mk hi249_1
                         have HC249_1 := Aside0.mk hl249_1
                         clear hi249_1 hl249_1
                         replace p249 := eq_true p249
                         replace q249 := eq_true q249
                         have ea_ := Option.some.inj (hx248_1.symm.trans hx249_1)
                         injection ea_ with ea_ en_ ec_
                         subst ea_
                         subst ec_
                         clear en_
                         have ea_ := Option.some.inj (hx248_31.symm.trans hx249_31)
                         injection ea_ with ea_ en_ ec_
                         subst ea_
                         subst ec_
                         clear en_
                         have p250 : 0 ≤ (x5_2 : Int) := of_decide_eq_true (by first | (with_reducible assumption) | assumption)
                         have q250 : x5_2 < (((rd_T48 l0 x4_1).f1).length : Int) := of_decide_eq_true (by first | (with_reducible assumption) | assumption)
                         obtain ⟨ad250, e250, hx250_0⟩ := Kd.at_int HR249_1.out x5_2 p250 q250
                         cases e250
                         replace hx250_0 := (HB.out.cell (World.block_lt_of_cell? w _ hx250_0)).trans hx250_0
                         replace p250 := eq_true p250
                         replace q250 := eq_true q250
                         have p17 : 0 ≤ ((rd ((rd_T48 l0 x4_1).f1) x5_2) : Int) := of_decide_eq_true (by first | (with_reducible assumption) | assumption)
                         have q17 : ((rd ((rd_T48 l0 x4_1).f1) x5_2) : Int) < ((x3_2.length : Int) : Int) := of_decide_eq_true (by first | (with_reducible assumption) | assumption)
                         obtain ⟨hx17_0, hf17_0⟩ := Kd.R_celln 0 HO_3.out ((rd ((rd_T48 l0 x4_1).f1) x5_2) : Int) p17 q17
                         replace p17 := eq_true p17
                         replace q17 := eq_true q17
                         have HP18 := Kd.R_putg HO_3.out ((rd ((rd_T48 l0 x4_1).f1) x5_2) : Int) x4_1
                         go_wp2_with (first | ((with_reducible refine gate_store (t := 3) (p := 37) rfl ?_); refine store_event (t := 3) (p := 37) (v := ?vo_w19) (w1 := (wr.setCell ⟨go5, ((rd ((rd_T48 l0 x4_1).f1) x5_2) : Int).toNat, none⟩ (.int .i64 x4_1))) ?hg ?ho ?hn ?hr ?_; (case ho => rfl); (case hg => rfl); (case hn => rfl); (case hr => first | (go_simp; done) | (go_simp; rfl)); intro w19 hw; have hg : wr.grownBy w19 (some go5) := (by rw [hw]; exact HP18.2); have hp_ : Kd.R (Kd.int .i64) 3 w19 w.heap.size (fun _ => True) (.slice (some ⟨go5, 0, none⟩) x3_2.length co5) y251 := (by rw [hw, Ny251.out]; exact HP18.1); clear HP18; have n0_ := Aside0.mk (hp_); have n1_ := Aside0.mk ((by rw [hw]; exact below_set (HB.out) GB5.out : Below w.heap.size w w19)); clear HO_3; clear HB; have HO_3 := n0_; have HB := n1_; clear n0_ n1_; clear hg hw hp_))
                         (try simp only [← hl3_2])
                         go_roundg k2
                         case measure => have := HK1.out; have := HK2.out; omega
                         case rel => exact ⟨(y251), (wrap64 (x5_2 + 1)), (by first | rfl | (simp; done) | (simp [*]; done)), H', ⟨by have := HK1.out; have := HK2.out; omega⟩, ⟨by (try simp only [hl3_1]); (try simp only [hl3_2]); (with_reducible repeat (first | apply Kd.R_alloc | apply Kd.R_drewN | apply Kd.R_drew)); exact HO_3.out⟩, ⟨by repeat (first | exact HB.out | apply below_alloc | apply pw_below_drewN | apply below_drew1)⟩⟩
                       · rw [if_neg c16] at H
                         exact absurd H (by simp)
                     · rw [if_neg c15] at H
                       exact absurd H (by simp)
                   · rw [if_neg c14] at H
                     exact absurd H (by simp)
                 · rw [if_neg c13] at H
                   have c13b0 : decide (x5_2 < (((rd_T48 l0 x4_1).f1).length : Int)) = false := decide_eq_false c13
                   clear c13
                   have H' := Aside0.mk H
                   clear H
                   have p248 : 0 ≤ (x4_1 : Int) := of_decide_eq_true (by first | (with_reducible assumption) | assumption)
                   have q248 : x4_1 < (l0.length : Int) := of_decide_eq_true (by first | (with_reducible assumption) | assumption)
                   obtain ⟨ad248, A248_1, c248_1, A248_31, c248_31, e248, hx248_0, hx248_1, -, -, -, -, -, -, -, -, -, -, -, -, -, -, -, -, -, -, -, -, hx248_22, -, -, -, -, -, -, -, -, hx248_31, -, -, hl248_1, hi248_1, hl248_31, hi248_31⟩ := at_T48 HR0.out x4_1 p248 q248
                   cases e248
                   replace hx248_0 := (HB.out.cell (World.block_lt_of_cell? w _ hx248_0)).trans hx248_0
                   replace hx248_1 := (HB.out.cell (World.block_lt_of_cell? w _ hx248_1)).trans hx248_1
                   replace hx248_22 := (HB.out.cell (World.block_lt_of_cell? w _ hx248_22)).trans hx248_22
                   replace hx248_31 := (HB.out.cell (World.block_lt_of_cell? w _ hx248_31)).trans hx248_31
                   have HR248_1 := Aside0.mk hi248_1
                   have HC248_1 := Aside0.mk hl248_1
                   clear hi248_1 hl248_1
                   have HR248_31 := Aside0.mk hi248_31
                   have HC248_31 := Aside0.mk hl248_31
                   clear hi248_31 hl248_31
                   replace p248 := eq_true p248
                   replace q248 := eq_true q248
                   go_wp2
                   (try simp only [← hl3_1, ← hl3_2])
                   go_roundg k2
                   case measure => have := HK1.out; have := HK2.out; omega
                   case rel => exact ⟨(x3_2), (wrap64 (x4_1 + 1)), (by first | rfl | (simp; done) | (simp [*]; done)), H', ⟨by have := HK1.out; have := HK2.out; omega⟩, ⟨by (try simp only [hl3_1]); (try simp only [hl3_2]); (with_reducible repeat (first | apply Kd.R_alloc | apply Kd.R_drewN | apply Kd.R_drew)); exact HO_3.out⟩, ⟨by repeat (first | exact HB.out | apply below_alloc | apply pw_below_drewN | apply below_drew1)⟩⟩
               · rw [if_neg c12] at H
                 exact absurd H (by simp)
             · rw [if_neg c11] at H
               exact absurd H (by simp)
         · rw [if_neg c10] at H
           have c10b0 : decide (x4_1 < (l0.length : Int)) = false := decide_eq_false c10
           clear c10
           obtain rfl := Option.some.inj H
           go_wp2
           go_ret
           exact ⟨_, by first | rfl | (simp [errW_none, errW_some] <;> rfl) | (simp [*, errW_none, errW_some] <;> rfl), by (with_reducible repeat (first | apply Kd.R_alloc | apply Kd.R_drewN | apply Kd.R_drew)); exact HO_3.out, by repeat (first | exact HB.out | apply below_alloc | apply pw_below_drewN | apply below_drew1)⟩
     · rw [if_neg c4] at H
       exact absurd H (by simp)
   · rw [if_neg c3] at H
     exact absurd H (by simp)
 · rw [if_neg c2] at H
   exact absurd H (by simp)
end Go.Proofs.Ytdmnaehgngpikaa.K
