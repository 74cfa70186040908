-- PRINTED by print.py (a twelfth state) out of the translation. Not trusted: Lean checks it.
import Derived.Test.YtjhpkikgajgdmaaK0
namespace Go.Proofs.Ytjhpkikgajgdmaa.K
open Go.RowKit Go.Proofs.YtjhpkikgajgdmaaW.PrintWords Go.Proofs.YtjhpkikgajgdmaaW.PrintLast Go.Proofs.YtjhpkikgajgdmaaW.PrintMore
attribute [local go_sem] max2_int min2_int max_two min_two max_three min_three max_four min_four   -- for this text's walks alone
set_option linter.unusedVariables false
set_option linter.unusedSimpArgs false
/-! ### purflingref04_reached: function 32 -/
mutual
def purflingref04_reached.l0 : Nat → List (S43) → Int → List Bool → List Int → Int → Option (Bool)
 | 0, _, _, _, _, _ => none
 | k + 1, x0, x1, x5, x6, x7 => if x7 < (x6.length : Int) then (purflingref04_reached.l1 k x0 x1 x5 x6 x7 0) else (if 0 ≤ x1 then (if x1 < (x5.length : Int) then (some (rdOf false x5 x1)) else (none)) else (none))
def purflingref04_reached.l1 : Nat → List (S43) → Int → List Bool → List Int → Int → Int → Option (Bool)
 | 0, _, _, _, _, _, _ => none
 | k + 1, x0, x1, x5, x6, x7, x8 => if 0 ≤ x7 then (if x7 < (x6.length : Int) then (if 0 ≤ (rd x6 x7) then (if (rd x6 x7) < (x0.length : Int) then (if x8 < (((rd_T43 x0 (rd x6 x7)).f1).length : Int) then (if 0 ≤ x8 then (if 0 ≤ (rd ((rd_T43 x0 (rd x6 x7)).f1) x8) then (if (rd ((rd_T43 x0 (rd x6 x7)).f1) x8) < (x5.length : Int) then (if (rdOf false x5 (rd ((rd_T43 x0 (rd x6 x7)).f1) x8) = true) then (purflingref04_reached.l1 k x0 x1 x5 x6 x7 (wrap64 (x8 + 1))) else (if x6.length < 17592186044416 then (purflingref04_reached.l1 k x0 x1 (x5.set ((rd ((rd_T43 x0 (rd x6 x7)).f1) x8) : Int).toNat true) (x6 ++ [rd ((rd_T43 x0 (rd x6 x7)).f1) x8]) x7 (wrap64 (x8 + 1))) else (none))) else (none)) else (none)) else (none)) else (purflingref04_reached.l0 k x0 x1 x5 x6 (wrap64 (x7 + 1)))) else (none)) else (none)) else (none)) else (none)
end
def purflingref04_reached.f (k : Nat) (l0 : List (S43)) (a1 : Int) : Option (Bool) := if 0 ≤ (l0.length : Int) then (if ((l0.length : Int) : Int).toNat ≤ 281474976710656 then ((some (List.replicate ((l0.length : Int) : Int).toNat false : List Bool)).bind fun y132 => (if 0 < (y132.length : Int) then (purflingref04_reached.l0 k l0 a1 (y132.set (0 : Int).toNat true) (([0] : List Int)) 0) else (none))) else (none)) else (none)
set_option maxHeartbeats 8000000 in
set_option maxRecDepth 100000 in
theorem purflingref04_reached.calls (k : Nat) (A0 : Option Addr) (c0 : Nat) (l0 : List (S43)) (a1 : Int) (r : Bool) (w : World) (hr0 : Kd.C k43 w A0 l0.length l0) (hc0 : l0.length ≤ c0) (h : purflingref04_reached.f k l0 a1 = some r) :
 Calls Try.prog 32 #[.slice A0 l0.length c0, .int .i64 a1] w fun e w' => e = .returned (.bool r) ∧ Below w.heap.size w w' := by
 have HR0 := Aside0.mk hr0
 have HC0 := Aside0.mk hc0
 clear hr0 hc0
 have HB := Aside0.mk (Below.refl w.heap.size w)
 have H : (if 0 ≤ (l0.length : Int) then (if ((l0.length : Int) : Int).toNat ≤ 281474976710656 then ((some (List.replicate ((l0.length : Int) : Int).toNat false : List Bool)).bind fun y132 => (if 0 < (y132.length : Int) then (purflingref04_reached.l0 k l0 a1 (y132.set (0 : Int).toNat true) (([0] : List Int)) 0) else (none))) else (none)) else (none)) = some r := h
 clear h
 by_cases c3 : 0 ≤ (l0.length : Int)
 · rw [if_pos c3] at H
   have c3b0 := eq_true c3
   have c3b1 : decide (0 ≤ (l0.length : Int)) = true := decide_eq_true c3
   clear c3
   by_cases c4 : ((l0.length : Int) : Int).toNat ≤ 281474976710656
   · rw [if_pos c4] at H
     have c4b0 := eq_true c4
     have c4b1 : decide (((l0.length : Int) : Int).toNat ≤ 281474976710656) = true := decide_eq_true c4
     clear c4
     obtain ⟨y132, hy132⟩ : ∃ y_ : List Bool, y_ = (List.replicate ((l0.length : Int) : Int).toNat false) := ⟨_, rfl⟩
     replace H : (if 0 < (y132.length : Int) then (purflingref04_reached.l0 k l0 a1 (y132.set (0 : Int).toNat true) (([0] : List Int)) 0) else (none)) = some r := by first | (rw [hy132]; with_reducible exact H) | (have H2_ := (Option.bind_some _ _).symm.trans H; rw [hy132]; with_reducible exact H2_) | (have H2_ := (Option.bind_some _ _).symm.trans H; with_reducible exact H2_) | with_reducible exact H | (rw [hy132]; exact H) | exact H
     have Ny132 := Aside0.mk hy132
     clear hy132
     obtain ⟨y135, hy135⟩ : ∃ y_ : List Int, y_ = (([0] : List Int)) := ⟨_, rfl⟩
     replace H : (if 0 < (y132.length : Int) then (purflingref04_reached.l0 k l0 a1 (y132.set (0 : Int).toNat true) y135 0) else (none)) = some r := by first | (rw [hy135]; with_reducible exact H) | (have H2_ := (Option.bind_some _ _).symm.trans H; rw [hy135]; with_reducible exact H2_) | (have H2_ := (Option.bind_some _ _).symm.trans H; with_reducible exact H2_) | with_reducible exact H | (rw [hy135]; exact H) | exact H
     have Ny135 := Aside0.mk hy135
     clear hy135
     by_cases c5 : 0 < (y132.length : Int)
     · rw [if_pos c5] at H
       have c5b0 : decide (0 < (y132.length : Int)) = true := decide_eq_true c5
       have c5b1 : decide (0 < y132.length) = true := decide_eq_true (by omega)
       clear c5
       obtain ⟨y138, hy138⟩ : ∃ y_ : List Bool, y_ = (y132.set (0 : Int).toNat true) := ⟨_, rfl⟩
       replace H : (purflingref04_reached.l0 k l0 a1 y138 y135 0) = some r := by first | (rw [hy138]; with_reducible exact H) | (have H2_ := (Option.bind_some _ _).symm.trans H; rw [hy138]; with_reducible exact H2_) | (have H2_ := (Option.bind_some _ _).symm.trans H; with_reducible exact H2_) | with_reducible exact H | (rw [hy138]; exact H) | exact H
       have Ny138 := Aside0.mk hy138
       clear hy138
       have H' := Aside0.mk H
       clear H
       go_enter Try.func32, Try.ntmps32
       go_wp2_with (first | ((with_reducible refine gate_dst (N := 12) rfl ?_); refine Kd.R_make Kd.bool _ 4 rfl (N := 12) rfl 65 _ _ rfl (l0.length : Int) rfl rfl Try.underlying65 (.bool false) 1 info4 rfl (by decide) (by omega) false (ok := fun _ => True) (okp := fun _ => True) rfl (fun _ hk => hk) trivial (of_decide_eq_true (by first | (with_reducible assumption) | assumption)) (Nat.le_trans (Nat.mul_le_mul_right _ (of_decide_eq_true (by first | (with_reducible assumption) | assumption) : (l0.length : Int).toNat ≤ 281474976710656)) (by omega)) (Below.refl _ _) (Nat.le_refl _) ?_; intro v133 w7 ho8 hb hg_ hnew_; clear hg_ hnew_; (first | rw [← Ny132.out] at ho8 | (simp only [Int.reduceToNat] at ho8; rw [← Ny132.out] at ho8)); have n0_ := Aside0.mk (Kd.R_lower ho8 (below_size (by repeat (first | exact HB.out | apply below_alloc | apply pw_below_drewN | apply below_drew1)))); have n1_ := Aside0.mk (below_step (by repeat (first | exact HB.out | apply below_alloc | apply pw_below_drewN | apply below_drew1)) hb); clear HB; have HO134 := n0_; have HB := n1_; clear n0_ n1_; clear hb ho8) | ((with_reducible refine gate_dst (N := 13) rfl ?_); refine Kd.R_lit (Kd.int .i64) _ 3 ?hg (N := 13) ?hd (xs := ([0] : List Int)) (inner := [.int .i64 0]) (ok := fun _ => True) (okp := fun _ => True) ?hr ?hp (fun _ hk => hk) trivial (Below.refl _ _) (Nat.le_refl _) (by simp) ?_; (case hd => rfl); (case hg => rfl); (case hr => first | (go_simp; done) | (go_simp; rfl)); (case hp => exact (Reps.one (show Kd.M (Kd.int .i64) _ _ _ 0 [.int .i64 0] from rfl) (Reps.none _ _))); intro v136 w9 ho10 hb hg_ hnew_; clear hg_ hnew_; (first | rw [← Ny135.out] at ho10 | (simp only [Int.reduceToNat] at ho10; rw [← Ny135.out] at ho10)); have n0_ := Aside0.mk (Kd.R_below (by (with_reducible repeat (first | apply Kd.R_alloc | apply Kd.R_drewN | apply Kd.R_drew)); exact HO134.out) hb); have n1_ := Aside0.mk (Kd.R_lower ho10 (below_size (by repeat (first | exact HB.out | apply below_alloc | apply pw_below_drewN | apply below_drew1)))); have n2_ := Aside0.mk (below_step (by repeat (first | exact HB.out | apply below_alloc | apply pw_below_drewN | apply below_drew1)) hb); clear HO134; clear HB; have HO134 := n0_; have HO137 := n1_; have HB := n2_; clear n0_ n1_ n2_; clear hb ho10; have p6 : 0 ≤ (0 : Int) := (by omega); have q6 : (0 : Int) < ((y132.length : Int) : Int) := of_decide_eq_true (by first | (with_reducible assumption) | assumption); have qi6 : (0 < y132.length) = True := eq_true (by omega); obtain ⟨go6, co6, eo6, gb6, gl6, cl6, HG6⟩ := Kd.R_form HO134.out (by omega); (first | cases eo6 | (injection eo6 with ea_ en_ ec_; (first | subst ea_ | (injection ea_ with ea_; subst ea_)); subst ec_; clear en_)); have GB6 := Aside0.mk gb6; have GG6 := Aside0.mk HG6; clear gb6 gl6 HG6; obtain ⟨hx6_0, hf6_0⟩ := Kd.R_celln false HO134.out (0 : Int) p6 q6; (try rw [show ((0 : Int)).toNat = 0 from rfl] at hx6_0); (try simp only [Nat.reduceMul, Nat.zero_mul, Nat.zero_add, Nat.reduceAdd] at hx6_0); (try rw [show ((0 : Int)).toNat = 0 from rfl] at hf6_0); (try simp only [Nat.reduceMul, Nat.zero_mul, Nat.zero_add, Nat.reduceAdd] at hf6_0); replace p6 := eq_true p6; replace q6 := eq_true q6; obtain ⟨hy11_, hz11_⟩ := Kd.R_celln false HO134.out (0 : Int) (by omega) (of_decide_eq_true (by first | (with_reducible assumption) | assumption)); (try simp only [Int.reduceToNat, Int.toNat_zero, Int.toNat_ofNat, Nat.reduceMul, Nat.zero_mul, Nat.zero_add] at hy11_ hz11_); (try rw [show ((0 : Int)).toNat = 0 from rfl] at hy11_); (try rw [show ((0 : Int)).toNat = 0 from rfl] at hz11_); have HP11 := Kd.R_putg HO134.out (0 : Int) true) | ((with_reducible refine gate_store (t := 4) (p := 15) rfl ?_); refine store_event (t := 4) (p := 15) (v := ?vo_w12) (w1 := (w9.setCell ⟨go6, (0 : Int).toNat, none⟩ (.bool true))) ?hg ?ho ?hn ?hr ?_; (case ho => rfl); (case hg => rfl); (case hn => rfl); (case hr => first | (go_simp; done) | (go_simp; rfl)); intro w12 hw; have hg : w9.grownBy w12 (some go6) := (by rw [hw]; exact HP11.2); have hp_ : Kd.R Kd.bool 4 w12 w.heap.size (fun _ => True) (.slice (some ⟨go6, 0, none⟩) y132.length co6) y138 := (by rw [hw, Ny138.out]; exact HP11.1); clear HP11; have n0_ := Aside0.mk (hp_); have n1_ := Aside0.mk (Kd.R_over' (v := (.slice (some ⟨go6, 0, none⟩) y132.length co6)) (by (with_reducible repeat (first | apply Kd.R_alloc | apply Kd.R_drewN | apply Kd.R_drew)); exact HO137.out) (Kd.R_typed HO134.out) (by decide) hg); have n2_ := Aside0.mk ((by rw [hw]; exact below_set (HB.out) GB6.out : Below w.heap.size w w12)); clear HO134; clear HO137; clear HB; have HO134 := n0_; have HO137 := n1_; have HB := n2_; clear n0_ n1_ n2_; clear hg hw hp_))
       go_loopg [6, 7] k (fun kq v6 v7 w' => ∃ (x5_1 : List Bool) (x6_1 : List Int) (x7_1 : Int), v7 = .int .i64 x7_1 ∧ Aside0 (purflingref04_reached.l0 kq l0 a1 x5_1 x6_1 x7_1 = some r) ∧ Aside0 (kq ≤ k) ∧ Aside0 (Kd.R Kd.bool 4 w' w.heap.size (fun _ => True) (.slice (some ⟨go6, 0, none⟩) y132.length co6) x5_1) ∧ Aside0 (Kd.R (Kd.int .i64) 3 w' w.heap.size (fun _ => True) v6 x6_1) ∧ Aside0 (Below w.heap.size w w'))
       case atStart => exact ⟨(y138), (y135), (0), (by first | rfl | (simp; done) | (simp [*]; done)), H', ⟨Nat.le_refl _⟩, ⟨by (with_reducible repeat (first | apply Kd.R_alloc | apply Kd.R_drewN | apply Kd.R_drew)); exact HO134.out⟩, ⟨by (with_reducible repeat (first | apply Kd.R_alloc | apply Kd.R_drewN | apply Kd.R_drew)); exact HO137.out⟩, ⟨by repeat (first | exact HB.out | apply below_alloc | apply pw_below_drewN | apply below_drew1)⟩⟩
       case round =>
        clear H'
        try clear p2
        try clear c3
        try clear c3b0
        try clear c3b1
        try clear c4
        try clear c4b0
        try clear c4b1
        try clear c5
        try clear c5b0
        try clear c5b1
        try clear p6
        try clear q6
        try clear hx6
        try clear qi6
        try clear hf6
        try clear hx6_0
        try clear p6
        try clear q6
        obtain ⟨x5_1, x6_1, x7_1, rfl, HA, HK1, HO_5, HO_6, HB⟩ := hrel
        have hl5_1 := (Kd.R_reads' HO_5.out).1
        rw [hl5_1] at HO_5
        (try simp only [hl5_1])
        (try simp only [hl5_1] at HO_6)
        cases gk with
        | zero => exact absurd HA.out (by simp [purflingref04_reached.l0])
        | succ k1 =>
         have H := HA.out
         clear HA
         simp only [purflingref04_reached.l0] at H
         by_cases c13 : x7_1 < (x6_1.length : Int)
         · rw [if_pos c13] at H
           have c13b0 : decide (x7_1 < (x6_1.length : Int)) = true := decide_eq_true c13
           clear c13
           have H' := Aside0.mk H
           clear H
           obtain ⟨Ao14, co14, eo14⟩ := Kd.R_slice HO_6.out
           subst eo14
           go_wp2
           go_loopg [6, 8] k1 (fun kq v6 v8 w' => ∃ (x5_2 : List Bool) (x6_2 : List Int) (x8_2 : Int), v8 = .int .i64 x8_2 ∧ Aside0 (purflingref04_reached.l1 kq l0 a1 x5_2 x6_2 x7_1 x8_2 = some r) ∧ Aside0 (kq ≤ k1) ∧ Aside0 (Kd.R Kd.bool 4 w' w.heap.size (fun _ => True) (.slice (some ⟨go6, 0, none⟩) x5_1.length co6) x5_2) ∧ Aside0 (Kd.R (Kd.int .i64) 3 w' w.heap.size (fun _ => True) v6 x6_2) ∧ Aside0 (Below w.heap.size w w'))
           case atStart => exact ⟨(x5_1), (x6_1), (0), (by first | rfl | (simp; done) | (simp [*]; done)), H', ⟨Nat.le_refl _⟩, ⟨by (try simp only [hl5_1]); (with_reducible repeat (first | apply Kd.R_alloc | apply Kd.R_drewN | apply Kd.R_drew)); exact HO_5.out⟩, ⟨by (try simp only [hl5_1]); (with_reducible repeat (first | apply Kd.R_alloc | apply Kd.R_drewN | apply Kd.R_drew)); exact HO_6.out⟩, ⟨by repeat (first | exact HB.out | apply below_alloc | apply pw_below_drewN | apply below_drew1)⟩⟩
           case round =>
            clear H'
            try clear c1
            try clear p2
            try clear c3
            try clear c3b0
            try clear c3b1
            try clear c4
            try clear c4b0
            try clear c4b1
            try clear c5
            try clear c5b0
            try clear c5b1
            try clear p6
            try clear q6
            try clear hx6
            try clear qi6
            try clear hf6
            try clear c13
            try clear c13b0
            try clear hx6_0
            try clear p2
            try clear p6
            try clear q6
            obtain ⟨x5_2, x6_2, x8_2, rfl, HA, HK2, HO_5, HO_6, HB⟩ := hrel
            have hl5_2 := (Kd.R_reads' HO_5.out).1
            rw [hl5_2] at HO_5
            (try simp only [hl5_2])
            (try simp only [hl5_2] at HO_6)
            cases gk with
            | zero => exact absurd HA.out (by simp [purflingref04_reached.l1])
            | succ k2 =>
             have H := HA.out
             clear HA
             simp only [purflingref04_reached.l1] at H
             by_cases c15 : 0 ≤ x7_1
             · rw [if_pos c15] at H
               have c15b0 : decide (0 ≤ x7_1) = true := decide_eq_true c15
               clear c15
               by_cases c16 : x7_1 < (x6_2.length : Int)
               · rw [if_pos c16] at H
                 have c16b0 : decide (x7_1 < (x6_2.length : Int)) = true := decide_eq_true c16
                 clear c16
                 by_cases c17 : 0 ≤ (rd x6_2 x7_1)
                 · rw [if_pos c17] at H
                   have c17b0 : decide (0 ≤ (rd x6_2 x7_1)) = true := decide_eq_true c17
                   clear c17
                   by_cases c18 : (rd x6_2 x7_1) < (l0.length : Int)
                   · rw [if_pos c18] at H
                     have c18b0 : decide ((rd x6_2 x7_1) < (l0.length : Int)) = true := decide_eq_true c18
                     clear c18
                     by_cases c19 : x8_2 < (((rd_T43 l0 (rd x6_2 x7_1)).f1).length : Int)
                     · rw [if_pos c19] at H
                       have c19b0 : decide (x8_2 < (((rd_T43 l0 (rd x6_2 x7_1)).f1).length : Int)) = true := decide_eq_true c19
                       clear c19
                       by_cases c20 : 0 ≤ x8_2
                       · rw [if_pos c20] at H
                         have c20b0 : decide (0 ≤ x8_2) = true := decide_eq_true c20
                         clear c20
                         by_cases c21 : 0 ≤ (rd ((rd_T43 l0 (rd x6_2 x7_1)).f1) x8_2)
                         · rw [if_pos c21] at H
                           have c21b0 : decide (0 ≤ (rd ((rd_T43 l0 (rd x6_2 x7_1)).f1) x8_2)) = true := decide_eq_true c21
                           clear c21
                           by_cases c22 : (rd ((rd_T43 l0 (rd x6_2 x7_1)).f1) x8_2) < (x5_2.length : Int)
                           · rw [if_pos c22] at H
                             have c22b0 : decide ((rd ((rd_T43 l0 (rd x6_2 x7_1)).f1) x8_2) < (x5_2.length : Int)) = true := decide_eq_true c22
                             clear c22
                             obtain ⟨bq23, hbq23⟩ : ∃ b_ : Bool, b_ = (rdOf false x5_2 (rd ((rd_T43 l0 (rd x6_2 x7_1)).f1) x8_2)) := ⟨_, rfl⟩
                             replace H : (if (bq23 = true) then (purflingref04_reached.l1 k2 l0 a1 x5_2 x6_2 x7_1 (wrap64 (x8_2 + 1))) else (if x6_2.length < 17592186044416 then (purflingref04_reached.l1 k2 l0 a1 (x5_2.set ((rd ((rd_T43 l0 (rd x6_2 x7_1)).f1) x8_2) : Int).toNat true) (x6_2 ++ [rd ((rd_T43 l0 (rd x6_2 x7_1)).f1) x8_2]) x7_1 (wrap64 (x8_2 + 1))) else (none))) = some r := by rw [← hbq23] at H; exact H
                             have Nbq23 := Aside0.mk hbq23
                             clear hbq23
                             by_cases c24 : (bq23 = true)
                             · subst c24
                               have H1 : (purflingref04_reached.l1 k2 l0 a1 x5_2 x6_2 x7_1 (wrap64 (x8_2 + 1))) = some r := by rw [if_pos rfl] at H; exact H
                               clear H
                               have H := H1
                               clear H1
                               have H' := Aside0.mk H
                               clear H
                               obtain ⟨Ao25, co25, eo25⟩ := Kd.R_slice HO_6.out
                               subst eo25
                               have p140 : 0 ≤ (x7_1 : Int) := of_decide_eq_true (by first | (with_reducible assumption) | assumption)
                               have q140 : x7_1 < (x6_2.length : Int) := of_decide_eq_true (by first | (with_reducible assumption) | assumption)
                               obtain ⟨ad140, e140, hx140_0⟩ := Kd.at_int (Kd.R_reads' HO_6.out).2.2 x7_1 p140 q140
                               cases e140
                               replace p140 := eq_true p140
                               replace q140 := eq_true q140
                               have p141 : 0 ≤ ((rd x6_2 x7_1) : Int) := of_decide_eq_true (by first | (with_reducible assumption) | assumption)
                               have q141 : (rd x6_2 x7_1) < (l0.length : Int) := of_decide_eq_true (by first | (with_reducible assumption) | assumption)
                               obtain ⟨ad141, A141_1, c141_1, A141_31, c141_31, e141, hx141_0, hx141_1, hx141_2, hx141_3, hx141_4, hx141_5, hx141_6, hx141_7, hx141_8, hx141_9, hx141_10, hx141_11, hx141_12, hx141_13, hx141_14, hx141_15, hx141_16, hx141_17, hx141_18, hx141_19, hx141_20, hx141_21, hx141_22, hx141_23, hx141_24, hx141_25, hx141_26, hx141_27, hx141_28, hx141_29, hx141_30, hx141_31, hx141_32, hx141_33, hl141_1, hi141_1, hl141_31, hi141_31⟩ := at_T43 HR0.out (rd x6_2 x7_1) p141 q141
                               (try rw [← Nbq23.out] at hx141_25)
                               (try rw [← Nbq23.out] at hx141_26)
                               (try rw [← Nbq23.out] at hx141_29)
                               (try rw [← Nbq23.out] at hx141_30)
                               cases e141
                               replace hx141_0 := (HB.out.cell (World.block_lt_of_cell? w _ hx141_0)).trans hx141_0
                               replace hx141_1 := (HB.out.cell (World.block_lt_of_cell? w _ hx141_1)).trans hx141_1
                               replace hx141_2 := (HB.out.cell (World.block_lt_of_cell? w _ hx141_2)).trans hx141_2
                               replace hx141_3 := (HB.out.cell (World.block_lt_of_cell? w _ hx141_3)).trans hx141_3
                               replace hx141_4 := (HB.out.cell (World.block_lt_of_cell? w _ hx141_4)).trans hx141_4
                               replace hx141_5 := (HB.out.cell (World.block_lt_of_cell? w _ hx141_5)).trans hx141_5
                               replace hx141_6 := (HB.out.cell (World.block_lt_of_cell? w _ hx141_6)).trans hx141_6
                               replace hx141_7 := (HB.out.cell (World.block_lt_of_cell? w _ hx141_7)).trans hx141_7
                               replace hx141_8 := (HB.out.cell (World.block_lt_of_cell? w _ hx141_8)).trans hx141_8
                               replace hx141_9 := (HB.out.cell (World.block_lt_of_cell? w _ hx141_9)).trans hx141_9
                               replace hx141_10 := (HB.out.cell (World.block_lt_of_cell? w _ hx141_10)).trans hx141_10
                               replace hx141_11 := (HB.out.cell (World.block_lt_of_cell? w _ hx141_11)).trans hx141_11
                               replace hx141_12 := (HB.out.cell (World.block_lt_of_cell? w _ hx141_12)).trans hx141_12
                               replace hx141_13 := (HB.out.cell (World.block_lt_of_cell? w _ hx141_13)).trans hx141_13
                               replace hx141_14 := (HB.out.cell (World.block_lt_of_cell? w _ hx141_14)).trans hx141_14
                               replace hx141_15 := (HB.out.cell (World.block_lt_of_cell? w _ hx141_15)).trans hx141_15
                               replace hx141_16 := (HB.out.cell (World.block_lt_of_cell? w _ hx141_16)).trans hx141_16
                               replace hx141_17 := (HB.out.cell (World.block_lt_of_cell? w _ hx141_17)).trans hx141_17
                               replace hx141_18 := (HB.out.cell (World.block_lt_of_cell? w _ hx141_18)).trans hx141_18
                               replace hx141_19 := (HB.out.cell (World.block_lt_of_cell? w _ hx141_19)).trans hx141_19
                               replace hx141_20 := (HB.out.cell (World.block_lt_of_cell? w _ hx141_20)).trans hx141_20
                               replace hx141_21 := (HB.out.cell (World.block_lt_of_cell? w _ hx141_21)).trans hx141_21
                               replace hx141_22 := (HB.out.cell (World.block_lt_of_cell? w _ hx141_22)).trans hx141_22
                               replace hx141_23 := (HB.out.cell (World.block_lt_of_cell? w _ hx141_23)).trans hx141_23
                               replace hx141_24 := (HB.out.cell (World.block_lt_of_cell? w _ hx141_24)).trans hx141_24
                               replace hx141_25 := (HB.out.cell (World.block_lt_of_cell? w _ hx141_25)).trans hx141_25
                               replace hx141_26 := (HB.out.cell (World.block_lt_of_cell? w _ hx141_26)).trans hx141_26
                               replace hx141_27 := (HB.out.cell (World.block_lt_of_cell? w _ hx141_27)).trans hx141_27
                               replace hx141_28 := (HB.out.cell (World.block_lt_of_cell? w _ hx141_28)).trans hx141_28
                               replace hx141_29 := (HB.out.cell (World.block_lt_of_cell? w _ hx141_29)).trans hx141_29
                               replace hx141_30 := (HB.out.cell (World.block_lt_of_cell? w _ hx141_30)).trans hx141_30
                               replace hx141_31 := (HB.out.cell (World.block_lt_of_cell? w _ hx141_31)).trans hx141_31
                               replace hx141_32 := (HB.out.cell (World.block_lt_of_cell? w _ hx141_32)).trans hx141_32
                               replace hx141_33 := (HB.out.cell (World.block_lt_of_cell? w _ hx141_33)).trans hx141_33
                               have HR141_1 := Aside0.mk hi141_1
                               have HC141_1 := Aside0.mk hl141_1
                               clear hi141_1 hl141_1
                               have HR141_31 := Aside0.mk hi141_31
                               have HC141_31 := Aside0.mk hl141_31
                               clear hi141_31 hl141_31
                               replace p141 := eq_true p141
                               replace q141 := eq_true q141
                               have p142 : 0 ≤ (x7_1 : Int) := of_decide_eq_true (by first | (with_reducible assumption) | assumption)
                               have q142 : x7_1 < (x6_2.length : Int) := of_decide_eq_true (by first | (with_reducible assumption) | assumption)
                               obtain ⟨ad142, e142, hx142_0⟩ := Kd.at_int (Kd.R_reads' HO_6.out).2.2 x7_1 p142 q142
                               obtain rfl : ad140 = ad142 := (by injection e142)
                               replace p142 := eq_true p142
                               replace q142 := eq_true q142
                               have p143 : 0 ≤ ((rd x6_2 x7_1) : Int) := of_decide_eq_true (by first | (with_reducible assumption) | assumption)
                               have q143 : (rd x6_2 x7_1) < (l0.length : Int) := of_decide_eq_true (by first | (with_reducible assumption) | assumption)
                               obtain ⟨ad143, A143_1, c143_1, A143_31, c143_31, e143, hx143_0, hx143_1, hx143_2, hx143_3, hx143_4, hx143_5, hx143_6, hx143_7, hx143_8, hx143_9, hx143_10, hx143_11, hx143_12, hx143_13, hx143_14, hx143_15, hx143_16, hx143_17, hx143_18, hx143_19, hx143_20, hx143_21, hx143_22, hx143_23, hx143_24, hx143_25, hx143_26, hx143_27, hx143_28, hx143_29, hx143_30, hx143_31, hx143_32, hx143_33, hl143_1, hi143_1, hl143_31, hi143_31⟩ := at_T43 HR0.out (rd x6_2 x7_1) p143 q143
                               (try rw [← Nbq23.out] at hx143_25)
                               (try rw [← Nbq23.out] at hx143_26)
                               (try rw [← Nbq23.out] at hx143_29)
                               (try rw [← Nbq23.out] at hx143_30)
                               obtain rfl : ad141 = ad143 := (by injection e143)
                               replace hx143_0 := (HB.out.cell (World.block_lt_of_cell? w _ hx143_0)).trans hx143_0
                               replace hx143_1 := (HB.out.cell (World.block_lt_of_cell? w _ hx143_1)).trans hx143_1
                               replace hx143_2 := (HB.out.cell (World.block_lt_of_cell? w _ hx143_2)).trans hx143_2
                               replace hx143_3 := (HB.out.cell (World.block_lt_of_cell? w _ hx143_3)).trans hx143_3
                               replace hx143_4 := (HB.out.cell (World.block_lt_of_cell? w _ hx143_4)).trans hx143_4
                               replace hx143_5 := (HB.out.cell (World.block_lt_of_cell? w _ hx143_5)).trans hx143_5
                               replace hx143_6 := (HB.out.cell (World.block_lt_of_cell? w _ hx143_6)).trans hx143_6
                               replace hx143_7 := (HB.out.cell (World.block_lt_of_cell? w _ hx143_7)).trans hx143_7
                               replace hx143_8 := (HB.out.cell (World.block_lt_of_cell? w _ hx143_8)).trans hx143_8
                               replace hx143_9 := (HB.out.cell (World.block_lt_of_cell? w _ hx143_9)).trans hx143_9
                               replace hx143_10 := (HB.out.cell (World.block_lt_of_cell? w _ hx143_10)).trans hx143_10
                               replace hx143_11 := (HB.out.cell (World.block_lt_of_cell? w _ hx143_11)).trans hx143_11
                               replace hx143_12 := (HB.out.cell (World.block_lt_of_cell? w _ hx143_12)).trans hx143_12
                               replace hx143_13 := (HB.out.cell (World.block_lt_of_cell? w _ hx143_13)).trans hx143_13
                               replace hx143_14 := (HB.out.cell (World.block_lt_of_cell? w _ hx143_14)).trans hx143_14
                               replace hx143_15 := (HB.out.cell (World.block_lt_of_cell? w _ hx143_15)).trans hx143_15
                               replace hx143_16 := (HB.out.cell (World.block_lt_of_cell? w _ hx143_16)).trans hx143_16
                               replace hx143_17 := (HB.out.cell (World.block_lt_of_cell? w _ hx143_17)).trans hx143_17
                               replace hx143_18 := (HB.out.cell (World.block_lt_of_cell? w _ hx143_18)).trans hx143_18
                               replace hx143_19 := (HB.out.cell (World.block_lt_of_cell? w _ hx143_19)).trans hx143_19
                               replace hx143_20 := (HB.out.cell (World.block_lt_of_cell? w _ hx143_20)).trans hx143_20
                               replace hx143_21 := (HB.out.cell (World.block_lt_of_cell? w _ hx143_21)).trans hx143_21
                               replace hx143_22 := (HB.out.cell (World.block_lt_of_cell? w _ hx143_22)).trans hx143_22
                               replace hx143_23 := (HB.out.cell (World.block_lt_of_cell? w _ hx143_23)).trans hx143_23
                               replace hx143_24 := (HB.out.cell (World.block_lt_of_cell? w _ hx143_24)).trans hx143_24
                               replace hx143_25 := (HB.out.cell (World.block_lt_of_cell? w _ hx143_25)).trans hx143_25
                               replace hx143_26 := (HB.out.cell (World.block_lt_of_cell? w _ hx143_26)).trans hx143_26
                               replace hx143_27 := (HB.out.cell (World.block_lt_of_cell? w _ hx143_27)).trans hx143_27
                               replace hx143_28 := (HB.out.cell (World.block_lt_of_cell? w _ hx143_28)).trans hx143_28
                               replace hx143_29 := (HB.out.cell (World.block_lt_of_cell? w _ hx143_29)).trans hx143_29
                               replace hx143_30 := (HB.out.cell (World.block_lt_of_cell? w _ hx143_30)).trans hx143_30
                               replace hx143_31 := (HB.out.cell (World.block_lt_of_cell? w _ hx143_31)).trans hx143_31
                               replace hx143_32 := (HB.out.cell (World.block_lt_of_cell? w _ hx143_32)).trans hx143_32
                               replace hx143_33 := (HB.out.cell (World.block_lt_of_cell? w _ hx143_33)).trans hx143_33
                               have HR143_1 := Aside0.mk hi143_1
                               have HC143_1 := Aside0.mk hl143_1
                               clear hi143_1 hl143_1
                               have HR143_31 := Aside0.mk hi143_31
                               have HC143_31 := Aside0.mk hl143_31
                               clear hi143_31 hl143_31
                               replace p143 := eq_true p143
                               replace q143 := eq_true q143
                               have ea_ := Option.some.inj (hx141_1.symm.trans hx143_1)
                               injection ea_ with ea_ en_ ec_
                               subst ea_
                               subst ec_
                               clear en_
                               have ea_ := Option.some.inj (hx141_31.symm.trans hx143_31)
                               injection ea_ with ea_ en_ ec_
                               subst ea_
                               subst ec_
                               clear en_
                               have p144 : 0 ≤ (x8_2 : Int) := of_decide_eq_true (by first | (with_reducible assumption) | assumption)
                               have q144 : x8_2 < (((rd_T43 l0 (rd x6_2 x7_1)).f1).length : Int) := of_decide_eq_true (by first | (with_reducible assumption) | assumption)
                               obtain ⟨ad144, e144, hx144_0⟩ := Kd.at_int HR143_1.out x8_2 p144 q144
                               cases e144
                               replace hx144_0 := (HB.out.cell (World.block_lt_of_cell? w _ hx144_0)).trans hx144_0
                               replace p144 := eq_true p144
                               replace q144 := eq_true q144
                               have p145 : 0 ≤ ((rd ((rd_T43 l0 (rd x6_2 x7_1)).f1) x8_2) : Int) := of_decide_eq_true (by first | (with_reducible assumption) | assumption)
                               have q145 : (rd ((rd_T43 l0 (rd x6_2 x7_1)).f1) x8_2) < (x5_2.length : Int) := of_decide_eq_true (by first | (with_reducible assumption) | assumption)
                               obtain ⟨ad145, e145, hx145_0⟩ := Kd.at_bool (Kd.R_reads' HO_5.out).2.2 (rd ((rd_T43 l0 (rd x6_2 x7_1)).f1) x8_2) p145 q145
                               (try rw [← Nbq23.out] at hx145_0)
                               obtain rfl : (⟨go6, 0, none⟩ : Addr) = ad145 := (by injection e145)
                               (first | simp only [add_plain] at hx145_0 | simp only [add_at] at hx145_0 | simp only [Addr.add, Nat.zero_add] at hx145_0 | skip)
                               replace p145 := eq_true p145
                               replace q145 := eq_true q145
                               go_wp2
                               (try simp only [← hl5_2])
                               go_roundg k2
                               case measure => have := HK1.out; have := HK2.out; omega
                               case rel => exact ⟨(x5_2), (x6_2), (wrap64 (x8_2 + 1)), (by first | rfl | (simp; done) | (simp [*]; done)), H', ⟨by have := HK1.out; have := HK2.out; omega⟩, ⟨by (try simp only [hl5_1]); (try simp only [hl5_2]); (with_reducible repeat (first | apply Kd.R_alloc | apply Kd.R_drewN | apply Kd.R_drew)); exact HO_5.out⟩, ⟨by (try simp only [hl5_1]); (try simp only [hl5_2]); (with_reducible repeat (first | apply Kd.R_alloc | apply Kd.R_drewN | apply Kd.R_drew)); exact HO_6.out⟩, ⟨by repeat (first | exact HB.out | apply below_alloc | apply pw_below_drewN | apply below_drew1)⟩⟩
                             · replace c24 := Bool.eq_false_iff.mpr c24
                               subst c24
                               have H1 : (if x6_2.length < 17592186044416 then (purflingref04_reached.l1 k2 l0 a1 (x5_2.set ((rd ((rd_T43 l0 (rd x6_2 x7_1)).f1) x8_2) : Int).toNat true) (x6_2 ++ [rd ((rd_T43 l0 (rd x6_2 x7_1)).f1) x8_2]) x7_1 (wrap64 (x8_2 + 1))) else (none)) = some r := by rw [if_neg (show ¬ (false = true) by decide)] at H; exact H
                               clear H
                               have H := H1
                               clear H1
                               obtain ⟨y146, hy146⟩ : ∃ y_ : List Bool, y_ = (x5_2.set ((rd ((rd_T43 l0 (rd x6_2 x7_1)).f1) x8_2) : Int).toNat true) := ⟨_, rfl⟩
                               replace H : (if x6_2.length < 17592186044416 then (purflingref04_reached.l1 k2 l0 a1 y146 (x6_2 ++ [rd ((rd_T43 l0 (rd x6_2 x7_1)).f1) x8_2]) x7_1 (wrap64 (x8_2 + 1))) else (none)) = some r := by first | (rw [hy146]; with_reducible exact H) | (have H2_ := (Option.bind_some _ _).symm.trans H; rw [hy146]; with_reducible exact H2_) | (have H2_ := (Option.bind_some _ _).symm.trans H; with_reducible exact H2_) | with_reducible exact H | (rw [hy146]; exact H) | exact H
                               have Ny146 := Aside0.mk hy146
                               clear hy146
                               by_cases c27 : x6_2.length < 17592186044416
                               · rw [if_pos c27] at H
                                 have LMc27 := Aside0.mk c27
                                 clear c27
                                 obtain ⟨y147, hy147⟩ : ∃ y_ : List Int, y_ = (x6_2 ++ [rd ((rd_T43 l0 (rd x6_2 x7_1)).f1) x8_2]) := ⟨_, rfl⟩
                                 replace H : (purflingref04_reached.l1 k2 l0 a1 y146 y147 x7_1 (wrap64 (x8_2 + 1))) = some r := by first | (rw [hy147]; with_reducible exact H) | (have H2_ := (Option.bind_some _ _).symm.trans H; rw [hy147]; with_reducible exact H2_) | (have H2_ := (Option.bind_some _ _).symm.trans H; with_reducible exact H2_) | with_reducible exact H | (rw [hy147]; exact H) | exact H
                                 have Ny147 := Aside0.mk hy147
                                 clear hy147
                                 have H' := Aside0.mk H
                                 clear H
                                 obtain ⟨Ao28, co28, eo28⟩ := Kd.R_slice HO_6.out
                                 subst eo28
                                 have p140 : 0 ≤ (x7_1 : Int) := of_decide_eq_true (by first | (with_reducible assumption) | assumption)
                                 have q140 : x7_1 < (x6_2.length : Int) := of_decide_eq_true (by first | (with_reducible assumption) | assumption)
                                 obtain ⟨ad140, e140, hx140_0⟩ := Kd.at_int (Kd.R_reads' HO_6.out).2.2 x7_1 p140 q140
                                 cases e140
                                 replace p140 := eq_true p140
                                 replace q140 := eq_true q140
                                 have p141 : 0 ≤ ((rd x6_2 x7_1) : Int) := of_decide_eq_true (by first | (with_reducible assumption) | assumption)
                                 have q141 : (rd x6_2 x7_1) < (l0.length : Int) := of_decide_eq_true (by first | (with_reducible assumption) | assumption)
                                 obtain ⟨ad141, A141_1, c141_1, A141_31, c141_31, e141, hx141_0, hx141_1, hx141_2, hx141_3, hx141_4, hx141_5, hx141_6, hx141_7, hx141_8, hx141_9, hx141_10, hx141_11, hx141_12, hx141_13, hx141_14, hx141_15, hx141_16, hx141_17, hx141_18, hx141_19, hx141_20, hx141_21, hx141_22, hx141_23, hx141_24, hx141_25, hx141_26, hx141_27, hx141_28, hx141_29, hx141_30, hx141_31, hx141_32, hx141_33, hl141_1, hi141_1, hl141_31, hi141_31⟩ := at_T43 HR0.out (rd x6_2 x7_1) p141 q141
                                 (try rw [← Nbq23.out] at hx141_25)
                                 (try rw [← Nbq23.out] at hx141_26)
                                 (try rw [← Nbq23.out] at hx141_29)
                                 (try rw [← Nbq23.out] at hx141_30)
                                 cases e141
                                 replace hx141_0 := (HB.out.cell (World.block_lt_of_cell? w _ hx141_0)).trans hx141_0
                                 replace hx141_1 := (HB.out.cell (World.block_lt_of_cell? w _ hx141_1)).trans hx141_1
                                 replace hx141_2 := (HB.out.cell (World.block_lt_of_cell? w _ hx141_2)).trans hx141_2
                                 replace hx141_3 := (HB.out.cell (World.block_lt_of_cell? w _ hx141_3)).trans hx141_3
                                 replace hx141_4 := (HB.out.cell (World.block_lt_of_cell? w _ hx141_4)).trans hx141_4
                                 replace hx141_5 := (HB.out.cell (World.block_lt_of_cell? w _ hx141_5)).trans hx141_5
                                 replace hx141_6 := (HB.out.cell (World.block_lt_of_cell? w _ hx141_6)).trans hx141_6
                                 replace hx141_7 := (HB.out.cell (World.block_lt_of_cell? w _ hx141_7)).trans hx141_7
                                 replace hx141_8 := (HB.out.cell (World.block_lt_of_cell? w _ hx141_8)).trans hx141_8
                                 replace hx141_9 := (HB.out.cell (World.block_lt_of_cell? w _ hx141_9)).trans hx141_9
                                 replace hx141_10 := (HB.out.cell (World.block_lt_of_cell? w _ hx141_10)).trans hx141_10
                                 replace hx141_11 := (HB.out.cell (World.block_lt_of_cell? w _ hx141_11)).trans hx141_11
                                 replace hx141_12 := (HB.out.cell (World.block_lt_of_cell? w _ hx141_12)).trans hx141_12
                                 replace hx141_13 := (HB.out.cell (World.block_lt_of_cell? w _ hx141_13)).trans hx141_13
                                 replace hx141_14 := (HB.out.cell (World.block_lt_of_cell? w _ hx141_14)).trans hx141_14
                                 replace hx141_15 := (HB.out.cell (World.block_lt_of_cell? w _ hx141_15)).trans hx141_15
                                 replace hx141_16 := (HB.out.cell (World.block_lt_of_cell? w _ hx141_16)).trans hx141_16
                                 replace hx141_17 := (HB.out.cell (World.block_lt_of_cell? w _ hx141_17)).trans hx141_17
                                 replace hx141_18 := (HB.out.cell (World.block_lt_of_cell? w _ hx141_18)).trans hx141_18
                                 replace hx141_19 := (HB.out.cell (World.block_lt_of_cell? w _ hx141_19)).trans hx141_19
                                 replace hx141_20 := (HB.out.cell (World.block_lt_of_cell? w _ hx141_20)).trans hx141_20
                                 replace hx141_21 := (HB.out.cell (World.block_lt_of_cell? w _ hx141_21)).trans hx141_21
                                 replace hx141_22 := (HB.out.cell (World.block_lt_of_cell? w _ hx141_22)).trans hx141_22
                                 replace hx141_23 := (HB.out.cell (World.block_lt_of_cell? w _ hx141_23)).trans hx141_23
                                 replace hx141_24 := (HB.out.cell (World.block_lt_of_cell? w _ hx141_24)).trans hx141_24
                                 replace hx141_25 := (HB.out.cell (World.block_lt_of_cell? w _ hx141_25)).trans hx141_25
                                 replace hx141_26 := (HB.out.cell (World.block_lt_of_cell? w _ hx141_26)).trans hx141_26
                                 replace hx141_27 := (HB.out.cell (World.block_lt_of_cell? w _ hx141_27)).trans hx141_27
                                 replace hx141_28 := (HB.out.cell (World.block_lt_of_cell? w _ hx141_28)).trans hx141_28
                                 replace hx141_29 := (HB.out.cell (World.block_lt_of_cell? w _ hx141_29)).trans hx141_29
                                 replace hx141_30 := (HB.out.cell (World.block_lt_of_cell? w _ hx141_30)).trans hx141_30
                                 replace hx141_31 := (HB.out.cell (World.block_lt_of_cell? w _ hx141_31)).trans hx141_31
                                 replace hx141_32 := (HB.out.cell (World.block_lt_of_cell? w _ hx141_32)).trans hx141_32
                                 replace hx141_33 := (HB.out.cell (World.block_lt_of_cell? w _ hx141_33)).trans hx141_33
                                 have HR141_1 := Aside0.mk hi141_1
                                 have HC141_1 := Aside0.mk hl141_1
                                 clear hi141_1 hl141_1
                                 have HR141_31 := Aside0.mk hi141_31
                                 have HC141_31 := Aside0.mk hl141_31
                                 clear hi141_31 hl141_31
                                 replace p141 := eq_true p141
                                 replace q141 := eq_true q141
                                 have p142 : 0 ≤ (x7_1 : Int) := of_decide_eq_true (by first | (with_reducible assumption) | assumption)
                                 have q142 : x7_1 < (x6_2.length : Int) := of_decide_eq_true (by first | (with_reducible assumption) | assumption)
                                 obtain ⟨ad142, e142, hx142_0⟩ := Kd.at_int (Kd.R_reads' HO_6.out).2.2 x7_1 p142 q142
                                 obtain rfl : ad140 = ad142 := (by injection e142)
                                 replace p142 := eq_true p142
                                 replace q142 := eq_true q142
                                 have p143 : 0 ≤ ((rd x6_2 x7_1) : Int) := of_decide_eq_true (by first | (with_reducible assumption) | assumption)
                                 have q143 : (rd x6_2 x7_1) < (l0.length : Int) := of_decide_eq_true (by first | (with_reducible assumption) | assumption)
                                 obtain ⟨ad143, A143_1, c143_1, A143_31, c143_31, e143, hx143_0, hx143_1, hx143_2, hx143_3, hx143_4, hx143_5, hx143_6, hx143_7, hx143_8, hx143_9, hx143_10, hx143_11, hx143_12, hx143_13, hx143_14, hx143_15, hx143_16, hx143_17, hx143_18, hx143_19, hx143_20, hx143_21, hx143_22, hx143_23, hx143_24, hx143_25, hx143_26, hx143_27, hx143_28, hx143_29, hx143_30, hx143_31, hx143_32, hx143_33, hl143_1, hi143_1, hl143_31, hi143_31⟩ := at_T43 HR0.out (rd x6_2 x7_1) p143 q143
                                 (try rw [← Nbq23.out] at hx143_25)
                                 (try rw [← Nbq23.out] at hx143_26)
                                 (try rw [← Nbq23.out] at hx143_29)
                                 (try rw [← Nbq23.out] at hx143_30)
                                 obtain rfl : ad141 = ad143 := (by injection e143)
                                 replace hx143_0 := (HB.out.cell (World.block_lt_of_cell? w _ hx143_0)).trans hx143_0
                                 replace hx143_1 := (HB.out.cell (World.block_lt_of_cell? w _ hx143_1)).trans hx143_1
                                 replace hx143_2 := (HB.out.cell (World.block_lt_of_cell? w _ hx143_2)).trans hx143_2
                                 replace hx143_3 := (HB.out.cell (World.block_lt_of_cell? w _ hx143_3)).trans hx143_3
                                 replace hx143_4 := (HB.out.cell (World.block_lt_of_cell? w _ hx143_4)).trans hx143_4
                                 replace hx143_5 := (HB.out.cell (World.block_lt_of_cell? w _ hx143_5)).trans hx143_5
                                 replace hx143_6 := (HB.out.cell (World.block_lt_of_cell? w _ hx143_6)).trans hx143_6
                                 replace hx143_7 := (HB.out.cell (World.block_lt_of_cell? w _ hx143_7)).trans hx143_7
                                 replace hx143_8 := (HB.out.cell (World.block_lt_of_cell? w _ hx143_8)).trans hx143_8
                                 replace hx143_9 := (HB.out.cell (World.block_lt_of_cell? w _ hx143_9)).trans hx143_9
                                 replace hx143_10 := (HB.out.cell (World.block_lt_of_cell? w _ hx143_10)).trans hx143_10
                                 replace hx143_11 := (HB.out.cell (World.block_lt_of_cell? w _ hx143_11)).trans hx143_11
                                 replace hx143_12 := (HB.out.cell (World.block_lt_of_cell? w _ hx143_12)).trans hx143_12
                                 replace hx143_13 := (HB.out.cell (World.block_lt_of_cell? w _ hx143_13)).trans hx143_13
                                 replace hx143_14 := (HB.out.cell (World.block_lt_of_cell? w _ hx143_14)).trans hx143_14
                                 replace hx143_15 := (HB.out.cell (World.block_lt_of_cell? w _ hx143_15)).trans hx143_15
                                 replace hx143_16 := (HB.out.cell (World.block_lt_of_cell? w _ hx143_16)).trans hx143_16
                                 replace hx143_17 := (HB.out.cell (World.block_lt_of_cell? w _ hx143_17)).trans hx143_17
                                 replace hx143_18 := (HB.out.cell (World.block_lt_of_cell? w _ hx143_18)).trans hx143_18
                                 replace hx143_19 := (HB.out.cell (World.block_lt_of_cell? w _ hx143_19)).trans hx143_19
                                 replace hx143_20 := (HB.out.cell (World.block_lt_of_cell? w _ hx143_20)).trans hx143_20
                                 replace hx143_21 := (HB.out.cell (World.block_lt_of_cell? w _ hx143_21)).trans hx143_21
                                 replace hx143_22 := (HB.out.cell (World.block_lt_of_cell? w _ hx143_22)).trans hx143_22
                                 replace hx143_23 := (HB.out.cell (World.block_lt_of_cell? w _ hx143_23)).trans hx143_23
                                 replace hx143_24 := (HB.out.cell (World.block_lt_of_cell? w _ hx143_24)).trans hx143_24
                                 replace hx143_25 := (HB.out.cell (World.block_lt_of_cell? w _ hx143_25)).trans hx143_25
                                 replace hx143_26 := (HB.out.cell (World.block_lt_of_cell? w _ hx143_26)).trans hx143_26
                                 replace hx143_27 := (HB.out.cell (World.block_lt_of_cell? w _ hx143_27)).trans hx143_27
                                 replace hx143_28 := (HB.out.cell (World.block_lt_of_cell? w _ hx143_28)).trans hx143_28
                                 replace hx143_29 := (HB.out.cell (World.block_lt_of_cell? w _ hx143_29)).trans hx143_29
                                 replace hx143_30 := (HB.out.cell (World.block_lt_of_cell? w _ hx143_30)).trans hx143_30
                                 replace hx143_31 := (HB.out.cell (World.block_lt_of_cell? w _ hx143_31)).trans hx143_31
                                 replace hx143_32 := (HB.out.cell (World.block_lt_of_cell? w _ hx143_32)).trans hx143_32
                                 replace hx143_33 := (HB.out.cell (World.block_lt_of_cell? w _ hx143_33)).trans hx143_33
                                 have HR143_1 := Aside0.mk hi143_1
                                 have HC143_1 := Aside0.mk hl143_1
                                 clear hi143_1 hl143_1
                                 have HR143_31 := Aside0.mk hi143_31
                                 have HC143_31 := Aside0.mk hl143_31
                                 clear hi143_31 hl143_31
                                 replace p143 := eq_true p143
                                 replace q143 := eq_true q143
                                 have ea_ := Option.some.inj (hx141_1.symm.trans hx143_1)
                                 injection ea_ with ea_ en_ ec_
                                 subst ea_
                                 subst ec_
                                 clear en_
                                 have ea_ := Option.some.inj (hx141_31.symm.trans hx143_31)
                                 injection ea_ with ea_ en_ ec_
                                 subst ea_
                                 subst ec_
                                 clear en_
                                 have p144 : 0 ≤ (x8_2 : Int) := of_decide_eq_true (by first | (with_reducible assumption) | assumption)
                                 have q144 : x8_2 < (((rd_T43 l0 (rd x6_2 x7_1)).f1).length : Int) := of_decide_eq_true (by first | (with_reducible assumption) | assumption)
                                 obtain ⟨ad144, e144, hx144_0⟩ := Kd.at_int HR143_1.out x8_2 p144 q144
                                 cases e144
                                 replace hx144_0 := (HB.out.cell (World.block_lt_of_cell? w _ hx144_0)).trans hx144_0
                                 replace p144 := eq_true p144
                                 replace q144 := eq_true q144
                                 have p145 : 0 ≤ ((rd ((rd_T43 l0 (rd x6_2 x7_1)).f1) x8_2) : Int) := of_decide_eq_true (by first | (with_reducible assumption) | assumption)
                                 have q145 : (rd ((rd_T43 l0 (rd x6_2 x7_1)).f1) x8_2) < (x5_2.length : Int) := of_decide_eq_true (by first | (with_reducible assumption) | assumption)
                                 obtain ⟨ad145, e145, hx145_0⟩ := Kd.at_bool (Kd.R_reads' HO_5.out).2.2 (rd ((rd_T43 l0 (rd x6_2 x7_1)).f1) x8_2) p145 q145
                                 (try rw [← Nbq23.out] at hx145_0)
                                 obtain rfl : (⟨go6, 0, none⟩ : Addr) = ad145 := (by injection e145)
                                 (first | simp only [add_plain] at hx145_0 | simp only [add_at] at hx145_0 | simp only [Addr.add, Nat.zero_add] at hx145_0 | skip)
                                 replace p145 := eq_true p145
                                 replace q145 := eq_true q145
                                 have p26 : 0 ≤ ((rd ((rd_T43 l0 (rd x6_2 x7_1)).f1) x8_2) : Int) := of_decide_eq_true (by first | (with_reducible assumption) | assumption)
                                 have q26 : ((rd ((rd_T43 l0 (rd x6_2 x7_1)).f1) x8_2) : Int) < ((x5_2.length : Int) : Int) := of_decide_eq_true (by first | (with_reducible assumption) | assumption)
                                 obtain ⟨hx26_0, hf26_0⟩ := Kd.R_celln false HO_5.out ((rd ((rd_T43 l0 (rd x6_2 x7_1)).f1) x8_2) : Int) p26 q26
                                 replace p26 := eq_true p26
                                 replace q26 := eq_true q26
                                 have HP29 := Kd.R_putg HO_5.out ((rd ((rd_T43 l0 (rd x6_2 x7_1)).f1) x8_2) : Int) true
                                 go_wp2_with (first | ((with_reducible refine gate_store (t := 4) (p := 53) rfl ?_); refine store_event (t := 4) (p := 53) (v := ?vo_w30) (w1 := (wr.setCell ⟨go6, ((rd ((rd_T43 l0 (rd x6_2 x7_1)).f1) x8_2) : Int).toNat, none⟩ (.bool true))) ?hg ?ho ?hn ?hr ?_; (case ho => rfl); (case hg => rfl); (case hn => rfl); (case hr => first | (go_simp; done) | (go_simp; rfl)); intro w30 hw; have hg : wr.grownBy w30 (some go6) := (by rw [hw]; exact HP29.2); have hp_ : Kd.R Kd.bool 4 w30 w.heap.size (fun _ => True) (.slice (some ⟨go6, 0, none⟩) x5_2.length co6) y146 := (by rw [hw, Ny146.out]; exact HP29.1); clear HP29; have n0_ := Aside0.mk (hp_); have n1_ := Aside0.mk (Kd.R_over' (v := (.slice (some ⟨go6, 0, none⟩) x5_2.length co6)) (by (with_reducible repeat (first | apply Kd.R_alloc | apply Kd.R_drewN | apply Kd.R_drew)); exact HO_6.out) (Kd.R_typed HO_5.out) (by decide) hg); have n2_ := Aside0.mk ((by rw [hw]; exact below_set (HB.out) GB6.out : Below w.heap.size w w30)); clear HO_5; clear HO_6; clear HB; have HO_5 := n0_; have HO_6 := n1_; have HB := n2_; clear n0_ n1_ n2_; clear hg hw hp_) | ((with_reducible refine gate_builtin (b := .append) (xs := #[.tmp 54, .tmp 56]) rfl ?_); at_builtin; refine Kd.R_append (Kd.int .i64) (w0 := w) w.heap.size rfl (.tmp 54) (.tmp 56) 30 3 (.int .i64 0) 8 rfl Try.underlying30 info3 rfl (by decide) (by omega) (.slice (some ad140) x6_2.length co28) x6_2 (rd ((rd_T43 l0 (rd x6_2 x7_1)).f1) x8_2) [.int .i64 (rd ((rd_T43 l0 (rd x6_2 x7_1)).f1) x8_2)] (fun _ => True) (fun _ => False) rfl rfl ?aP (fun _ hk => hk.elim) ?aF ?aO ?aB ?aS ?aL ?_; (case aP => exact rfl); (case aB => exact (by repeat (first | exact HB.out | apply below_alloc | apply pw_below_drewN | apply below_drew1))); (case aF => exact (fun _ _ => trivial)); (case aO => exact (by (with_reducible repeat (first | apply Kd.R_alloc | apply Kd.R_drewN | apply Kd.R_drew)); exact HO_6.out)); (case aS => exact (below_size (by repeat (first | exact HB.out | apply below_alloc | apply pw_below_drewN | apply below_drew1)))); (case aL => have := LMc27.out; omega); intro v148 w31 ho hb hg hat; rw [← Ny147.out] at ho; have n0_ := Aside0.mk (Kd.R_over' (by (with_reducible repeat (first | apply Kd.R_alloc | apply Kd.R_drewN | apply Kd.R_drew)); exact HO_5.out) (Kd.R_typed (by (with_reducible repeat (first | apply Kd.R_alloc | apply Kd.R_drewN | apply Kd.R_drew)); exact HO_6.out)) (by decide) hg); have n1_ := Aside0.mk (hb); have n2_ := Aside0.mk (ho); clear HO_5; clear HB; clear HO_6; have HO_5 := n0_; have HB := n1_; have HO149 := n2_; clear n0_ n1_ n2_; clear ho hb hg hat))
                                 (try simp only [← hl5_2])
                                 go_roundg k2
                                 case measure => have := HK1.out; have := HK2.out; omega
                                 case rel => exact ⟨(y146), (y147), (wrap64 (x8_2 + 1)), (by first | rfl | (simp; done) | (simp [*]; done)), H', ⟨by have := HK1.out; have := HK2.out; omega⟩, ⟨by (try simp only [hl5_1]); (try simp only [hl5_2]); (with_reducible repeat (first | apply Kd.R_alloc | apply Kd.R_drewN | apply Kd.R_drew)); exact HO_5.out⟩, ⟨by (try simp only [hl5_1]); (try simp only [hl5_2]); (with_reducible repeat (first | apply Kd.R_alloc | apply Kd.R_drewN | apply Kd.R_drew)); exact HO149.out⟩, ⟨by repeat (first | exact HB.out | apply below_alloc | apply pw_below_drewN | apply below_drew1)⟩⟩
                               · rw [if_neg c27] at H
                                 exact absurd H (by simp)
                           · rw [if_neg c22] at H
                             exact absurd H (by simp)
                         · rw [if_neg c21] at H
                           exact absurd H (by simp)
                       · rw [if_neg c20] at H
                         exact absurd H (by simp)
                     · rw [if_neg c19] at H
                       have c19b0 : decide (x8_2 < (((rd_T43 l0 (rd x6_2 x7_1)).f1).length : Int)) = false := decide_eq_false c19
                       clear c19
                       have H' := Aside0.mk H
                       clear H
                       obtain ⟨Ao32, co32, eo32⟩ := Kd.R_slice HO_6.out
                       subst eo32
                       have p140 : 0 ≤ (x7_1 : Int) := of_decide_eq_true (by first | (with_reducible assumption) | assumption)
                       have q140 : x7_1 < (x6_2.length : Int) := of_decide_eq_true (by first | (with_reducible assumption) | assumption)
                       obtain ⟨ad140, e140, hx140_0⟩ := Kd.at_int (Kd.R_reads' HO_6.out).2.2 x7_1 p140 q140
                       cases e140
                       replace p140 := eq_true p140
                       replace q140 := eq_true q140
                       have p141 : 0 ≤ ((rd x6_2 x7_1) : Int) := of_decide_eq_true (by first | (with_reducible assumption) | assumption)
                       have q141 : (rd x6_2 x7_1) < (l0.length : Int) := of_decide_eq_true (by first | (with_reducible assumption) | assumption)
                       obtain ⟨ad141, A141_1, c141_1, A141_31, c141_31, e141, hx141_0, hx141_1, hx141_2, hx141_3, hx141_4, hx141_5, hx141_6, hx141_7, hx141_8, hx141_9, hx141_10, hx141_11, hx141_12, hx141_13, hx141_14, hx141_15, hx141_16, hx141_17, hx141_18, hx141_19, hx141_20, hx141_21, hx141_22, hx141_23, hx141_24, hx141_25, hx141_26, hx141_27, hx141_28, hx141_29, hx141_30, hx141_31, hx141_32, hx141_33, hl141_1, hi141_1, hl141_31, hi141_31⟩ := at_T43 HR0.out (rd x6_2 x7_1) p141 q141
                       cases e141
                       replace hx141_0 := (HB.out.cell (World.block_lt_of_cell? w _ hx141_0)).trans hx141_0
                       replace hx141_1 := (HB.out.cell (World.block_lt_of_cell? w _ hx141_1)).trans hx141_1
                       replace hx141_2 := (HB.out.cell (World.block_lt_of_cell? w _ hx141_2)).trans hx141_2
                       replace hx141_3 := (HB.out.cell (World.block_lt_of_cell? w _ hx141_3)).trans hx141_3
                       replace hx141_4 := (HB.out.cell (World.block_lt_of_cell? w _ hx141_4)).trans hx141_4
                       replace hx141_5 := (HB.out.cell (World.block_lt_of_cell? w _ hx141_5)).trans hx141_5
                       replace hx141_6 := (HB.out.cell (World.block_lt_of_cell? w _ hx141_6)).trans hx141_6
                       replace hx141_7 := (HB.out.cell (World.block_lt_of_cell? w _ hx141_7)).trans hx141_7
                       replace hx141_8 := (HB.out.cell (World.block_lt_of_cell? w _ hx141_8)).trans hx141_8
                       replace hx141_9 := (HB.out.cell (World.block_lt_of_cell? w _ hx141_9)).trans hx141_9
                       replace hx141_10 := (HB.out.cell (World.block_lt_of_cell? w _ hx141_10)).trans hx141_10
                       replace hx141_11 := (HB.out.cell (World.block_lt_of_cell? w _ hx141_11)).trans hx141_11
                       replace hx141_12 := (HB.out.cell (World.block_lt_of_cell? w _ hx141_12)).trans hx141_12
                       replace hx141_13 := (HB.out.cell (World.block_lt_of_cell? w _ hx141_13)).trans hx141_13
                       replace hx141_14 := (HB.out.cell (World.block_lt_of_cell? w _ hx141_14)).trans hx141_14
                       replace hx141_15 := (HB.out.cell (World.block_lt_of_cell? w _ hx141_15)).trans hx141_15
                       replace hx141_16 := (HB.out.cell (World.block_lt_of_cell? w _ hx141_16)).trans hx141_16
                       replace hx141_17 := (HB.out.cell (World.block_lt_of_cell? w _ hx141_17)).trans hx141_17
                       replace hx141_18 := (HB.out.cell (World.block_lt_of_cell? w _ hx141_18)).trans hx141_18
                       replace hx141_19 := (HB.out.cell (World.block_lt_of_cell? w _ hx141_19)).trans hx141_19
                       replace hx141_20 := (HB.out.cell (World.block_lt_of_cell? w _ hx141_20)).trans hx141_20
                       replace hx141_21 := (HB.out.cell (World.block_lt_of_cell? w _ hx141_21)).trans hx141_21
                       replace hx141_22 := (HB.out.cell (World.block_lt_of_cell? w _ hx141_22)).trans hx141_22
                       replace hx141_23 := (HB.out.cell (World.block_lt_of_cell? w _ hx141_23)).trans hx141_23
                       replace hx141_24 := (HB.out.cell (World.block_lt_of_cell? w _ hx141_24)).trans hx141_24
                       replace hx141_25 := (HB.out.cell (World.block_lt_of_cell? w _ hx141_25)).trans hx141_25
                       replace hx141_26 := (HB.out.cell (World.block_lt_of_cell? w _ hx141_26)).trans hx141_26
                       replace hx141_27 := (HB.out.cell (World.block_lt_of_cell? w _ hx141_27)).trans hx141_27
                       replace hx141_28 := (HB.out.cell (World.block_lt_of_cell? w _ hx141_28)).trans hx141_28
                       replace hx141_29 := (HB.out.cell (World.block_lt_of_cell? w _ hx141_29)).trans hx141_29
                       replace hx141_30 := (HB.out.cell (World.block_lt_of_cell? w _ hx141_30)).trans hx141_30
                       replace hx141_31 := (HB.out.cell (World.block_lt_of_cell? w _ hx141_31)).trans hx141_31
                       replace hx141_32 := (HB.out.cell (World.block_lt_of_cell? w _ hx141_32)).trans hx141_32
                       replace hx141_33 := (HB.out.cell (World.block_lt_of_cell? w _ hx141_33)).trans hx141_33
                       have HR141_1 := Aside0.mk hi141_1
                       have HC141_1 := Aside0.mk hl141_1
                       clear hi141_1 hl141_1
                       have HR141_31 := Aside0.mk hi141_31
                       have HC141_31 := Aside0.mk hl141_31
                       clear hi141_31 hl141_31
                       replace p141 := eq_true p141
                       replace q141 := eq_true q141
                       go_wp2
                       (try simp only [← hl5_1, ← hl5_2])
                       go_roundg k2
                       case measure => have := HK1.out; have := HK2.out; omega
                       case rel => exact ⟨(x5_2), (x6_2), (wrap64 (x7_1 + 1)), (by first | rfl | (simp; done) | (simp [*]; done)), H', ⟨by have := HK1.out; have := HK2.out; omega⟩, ⟨by (try simp only [hl5_1]); (try simp only [hl5_2]); (with_reducible repeat (first | apply Kd.R_alloc | apply Kd.R_drewN | apply Kd.R_drew)); exact HO_5.out⟩, ⟨by (try simp only [hl5_1]); (try simp only [hl5_2]); (with_reducible repeat (first | apply Kd.R_alloc | apply Kd.R_drewN | apply Kd.R_drew)); exact HO_6.out⟩, ⟨by repeat (first | exact HB.out | apply below_alloc | apply pw_below_drewN | apply below_drew1)⟩⟩
                   · rw [if_neg c18] at H
                     exact absurd H (by simp)
                 · rw [if_neg c17] at H
                   exact absurd H (by simp)
               · rw [if_neg c16] at H
                 exact absurd H (by simp)
             · rw [if_neg c15] at H
               exact absurd H (by simp)
         · rw [if_neg c13] at H
           have c13b0 : decide (x7_1 < (x6_1.length : Int)) = false := decide_eq_false c13
           clear c13
           by_cases c33 : 0 ≤ a1
           · rw [if_pos c33] at H
             have c33b0 : decide (0 ≤ a1) = true := decide_eq_true c33
             clear c33
             by_cases c34 : a1 < (x5_1.length : Int)
             · rw [if_pos c34] at H
               have c34b0 : decide (a1 < (x5_1.length : Int)) = true := decide_eq_true c34
               clear c34
               obtain rfl := Option.some.inj H
               obtain ⟨Ao35, co35, eo35⟩ := Kd.R_slice HO_6.out
               subst eo35
               have p139 : 0 ≤ (a1 : Int) := of_decide_eq_true (by first | (with_reducible assumption) | assumption)
               have q139 : a1 < (x5_1.length : Int) := of_decide_eq_true (by first | (with_reducible assumption) | assumption)
               obtain ⟨ad139, e139, hx139_0⟩ := Kd.at_bool (Kd.R_reads' HO_5.out).2.2 a1 p139 q139
               obtain rfl : (⟨go6, 0, none⟩ : Addr) = ad139 := (by injection e139)
               (first | simp only [add_plain] at hx139_0 | simp only [add_at] at hx139_0 | simp only [Addr.add, Nat.zero_add] at hx139_0 | skip)
               replace p139 := eq_true p139
               replace q139 := eq_true q139
               go_wp2
               go_ret
               exact ⟨by first | rfl | (simp [errW_none, errW_some] <;> rfl) | (simp [*, errW_none, errW_some] <;> rfl), by repeat (first | exact HB.out | apply below_alloc | apply pw_below_drewN | apply below_drew1)⟩
             · rw [if_neg c34] at H
               exact absurd H (by simp)
           · rw [if_neg c33] at H
             exact absurd H (by simp)
     · rw [if_neg c5] at H
       exact absurd H (by simp)
   · rw [if_neg c4] at H
     exact absurd H (by simp)
 · rw [if_neg c3] at H
   exact absurd H (by simp)
end Go.Proofs.Ytjhpkikgajgdmaa.K
