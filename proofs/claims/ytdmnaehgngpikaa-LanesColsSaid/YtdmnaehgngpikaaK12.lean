-- PRINTED by print.py (a twelfth state) out of the translation. Not trusted: Lean checks it.
import Derived.Test.YtdmnaehgngpikaaK0
namespace Go.Proofs.Ytdmnaehgngpikaa.K
open Go.RowKit Go.Proofs.YtdmnaehgngpikaaW.PrintWords Go.Proofs.YtdmnaehgngpikaaW.PrintLast Go.Proofs.YtdmnaehgngpikaaW.PrintMore
attribute [local go_sem] max2_int min2_int max_two min_two max_three min_three max_four min_four   -- for this text's walks alone
set_option linter.unusedVariables false
set_option linter.unusedSimpArgs false
/-! ### purflingref04_reached: function 41 -/
mutual
def purflingref04_reached.l0 : Nat → List (S48) → Int → List Bool → List Int → Int → Option (Bool)
 | 0, _, _, _, _, _ => none
 | k + 1, x0, x1, x5, x6, x7 => if x7 < (x6.length : Int) then (purflingref04_reached.l1 k x0 x1 x5 x6 x7 0) else (if 0 ≤ x1 then (if x1 < (x5.length : Int) then (some (rdOf false x5 x1)) else (none)) else (none))
def purflingref04_reached.l1 : Nat → List (S48) → Int → List Bool → List Int → Int → Int → Option (Bool)
 | 0, _, _, _, _, _, _ => none
 | k + 1, x0, x1, x5, x6, x7, x8 => if 0 ≤ x7 then (if x7 < (x6.length : Int) then (if 0 ≤ (rd x6 x7) then (if (rd x6 x7) < (x0.length : Int) then (if x8 < (((rd_T48 x0 (rd x6 x7)).f1).length : Int) then (if 0 ≤ x8 then (if 0 ≤ (rd ((rd_T48 x0 (rd x6 x7)).f1) x8) then (if (rd ((rd_T48 x0 (rd x6 x7)).f1) x8) < (x5.length : Int) then (if (rdOf false x5 (rd ((rd_T48 x0 (rd x6 x7)).f1) x8) = true) then (purflingref04_reached.l1 k x0 x1 x5 x6 x7 (wrap64 (x8 + 1))) else (if x6.length < 17592186044416 then (purflingref04_reached.l1 k x0 x1 (x5.set ((rd ((rd_T48 x0 (rd x6 x7)).f1) x8) : Int).toNat true) (x6 ++ [rd ((rd_T48 x0 (rd x6 x7)).f1) x8]) x7 (wrap64 (x8 + 1))) else (none))) else (none)) else (none)) else (none)) else (purflingref04_reached.l0 k x0 x1 x5 x6 (wrap64 (x7 + 1)))) else (none)) else (none)) else (none)) else (none)
end
def purflingref04_reached.f (k : Nat) (l0 : List (S48)) (a1 : Int) : Option (Bool) := if 0 ≤ (l0.length : Int) then (if ((l0.length : Int) : Int).toNat ≤ 281474976710656 then ((some (List.replicate ((l0.length : Int) : Int).toNat false : List Bool)).bind fun y226 => (if 0 < (y226.length : Int) then (purflingref04_reached.l0 k l0 a1 (y226.set (0 : Int).toNat true) (([0] : List Int)) 0) else (none))) else (none)) else (none)
set_option maxHeartbeats 8000000 in
set_option maxRecDepth 100000 in
theorem purflingref04_reached.calls (k : Nat) (A0 : Option Addr) (c0 : Nat) (l0 : List (S48)) (a1 : Int) (r : Bool) (w : World) (hr0 : Kd.C k48 w A0 l0.length l0) (hc0 : l0.length ≤ c0) (h : purflingref04_reached.f k l0 a1 = some r) :
 Calls Try.prog 41 #[.slice A0 l0.length c0, .int .i64 a1] w fun e w' => e = .returned (.bool r) ∧ Below w.heap.size w w' := by
 have HR0 := Aside0.mk hr0
 have HC0 := Aside0.mk hc0
 clear hr0 hc0
 have HB := Aside0.mk (Below.refl w.heap.size w)
 have H : (if 0 ≤ (l0.length : Int) then (if ((l0.length : Int) : Int).toNat ≤ 281474976710656 then ((some (List.replicate ((l0.length : Int) : Int).toNat false : List Bool)).bind fun y226 => (if 0 < (y226.length : Int) then (purflingref04_reached.l0 k l0 a1 (y226.set (0 : Int).toNat true) (([0] : List Int)) 0) else (none))) else (none)) else (none)) = some r := h
 clear h
 by_cases c3 : 0 ≤ (l0.length : Int)
 · rw [if_pos c3] at H
   have c3b0 := eq_true c3
   have c3b1 : decide (0 ≤ (l0.length : Int)) = true := decide_eq_true c3
   clear c3
   by_cases c4 : ((l0.length : Int) : Int).toNat ≤ 281474976710656
   · rw [if_pos c4] at H
     have c4b0 := eq_true c4
     have c4b1 : decide (((l0.length : Int) : Int).toNat ≤ 281474976710656) = true := decide_eq_true c4
     clear c4
     obtain ⟨y226, hy226⟩ : ∃ y_ : List Bool, y_ = (List.replicate ((l0.length : Int) : Int).toNat false) := ⟨_, rfl⟩
     replace H : (if 0 < (y226.length : Int) then (purflingref04_reached.l0 k l0 a1 (y226.set (0 : Int).toNat true) (([0] : List Int)) 0) else (none)) = some r := by first | (rw [hy226]; with_reducible exact H) | (have H2_ := (Option.bind_some _ _).symm.trans H; rw [hy226]; with_reducible exact H2_) | (have H2_ := (Option.bind_some _ _).symm.trans H; with_reducible exact H2_) | with_reducible exact H | (rw [hy226]; exact H) | exact H
     have Ny226 := Aside0.mk hy226
     clear hy226
     obtain ⟨y229, hy229⟩ : ∃ y_ : List Int, y_ = (([0] : List Int)) := ⟨_, rfl⟩
     replace H : (if 0 < (y226.length : Int) then (purflingref04_reached.l0 k l0 a1 (y226.set (0 : Int).toNat true) y229 0) else (none)) = some r := by first | (rw [hy229]; with_reducible exact H) | (have H2_ := (Option.bind_some _ _).symm.trans H; rw [hy229]; with_reducible exact H2_) | (have H2_ := (Option.bind_some _ _).symm.trans H; with_reducible exact H2_) | with_reducible exact H | (rw [hy229]; exact H) | exact H
     have Ny229 := Aside0.mk hy229
     clear hy229
     by_cases c5 : 0 < (y226.length : Int)
     · rw [if_pos c5] at H
       have c5b0 : decide (0 < (y226.length : Int)) = true := decide_eq_true c5
       have c5b1 : decide (0 < y226.length) = true := decide_eq_true (by omega)
       clear c5
       obtain ⟨y232, hy232⟩ : ∃ y_ : List Bool, y_ = (y226.set (0 : Int).toNat true) := ⟨_, rfl⟩
       replace H : (purflingref04_reached.l0 k l0 a1 y232 y229 0) = some r := by first | (rw [hy232]; with_reducible exact H) | (have H2_ := (Option.bind_some _ _).symm.trans H; rw [hy232]; with_reducible exact H2_) | (have H2_ := (Option.bind_some _ _).symm.trans H; with_reducible exact H2_) | with_reducible exact H | (rw [hy232]; exact H) | exact H
       have Ny232 := Aside0.mk hy232
       clear hy232
       have H' := Aside0.mk H
       clear H
       go_enter Try.func41, Try.ntmps41
       go_wp2_with (first | ((with_reducible refine gate_dst (N := 12) rfl ?_); refine Kd.R_make Kd.bool _ 4 rfl (N := 12) rfl 80 _ _ rfl (l0.length : Int) rfl rfl Try.underlying80 (.bool false) 1 info4 rfl (by decide) (by omega) false (ok := fun _ => True) (okp := fun _ => True) rfl (fun _ hk => hk) trivial (of_decide_eq_true (by first | (with_reducible assumption) | assumption)) (Nat.le_trans (Nat.mul_le_mul_right _ (of_decide_eq_true (by first | (with_reducible assumption) | assumption) : (l0.length : Int).toNat ≤ 281474976710656)) (by omega)) (Below.refl _ _) (Nat.le_refl _) ?_; intro v227 w7 ho8 hb hg_ hnew_; clear hg_ hnew_; (first | rw [← Ny226.out] at ho8 | (simp only [Int.reduceToNat] at ho8; rw [← Ny226.out] at ho8)); have n0_ := Aside0.mk (Kd.R_lower ho8 (below_size (by repeat (first | exact HB.out | apply below_alloc | apply pw_below_drewN | apply below_drew1)))); have n1_ := Aside0.mk (below_step (by repeat (first | exact HB.out | apply below_alloc | apply pw_below_drewN | apply below_drew1)) hb); clear HB; have HO228 := n0_; have HB := n1_; clear n0_ n1_; clear hb ho8) | ((with_reducible refine gate_dst (N := 13) rfl ?_); refine Kd.R_lit (Kd.int .i64) _ 3 ?hg (N := 13) ?hd (xs := ([0] : List Int)) (inner := [.int .i64 0]) (ok := fun _ => True) (okp := fun _ => True) ?hr ?hp (fun _ hk => hk) trivial (Below.refl _ _) (Nat.le_refl _) (by simp) ?_; (case hd => rfl); (case hg => rfl); (case hr => first | (go_simp; done) | (go_simp; rfl)); (case hp => exact (Reps.one (show Kd.M (Kd.int .i64) _ _ _ 0 [.int .i64 0] from rfl) (Reps.none _ _))); intro v230 w9 ho10 hb hg_ hnew_; clear hg_ hnew_; (first | rw [← Ny229.out] at ho10 | (simp only [Int.reduceToNat] at ho10; rw [← Ny229.out] at ho10)); have n0_ := Aside0.mk (Kd.R_below (by (with_reducible repeat (first | apply Kd.R_alloc | apply Kd.R_drewN | apply Kd.R_drew)); exact HO228.out) hb); have n1_ := Aside0.mk (Kd.R_lower ho10 (below_size (by repeat (first | exact HB.out | apply below_alloc | apply pw_below_drewN | apply below_drew1)))); have n2_ := Aside0.mk (below_step (by repeat (first | exact HB.out | apply below_alloc | apply pw_below_drewN | apply below_drew1)) hb); clear HO228; clear HB; have HO228 := n0_; have HO231 := n1_; have HB := n2_; clear n0_ n1_ n2_; clear hb ho10; have p6 : 0 ≤ (0 : Int) := (by omega); have q6 : (0 : Int) < ((y226.length : Int) : Int) := of_decide_eq_true (by first | (with_reducible assumption) | assumption); have qi6 : (0 < y226.length) = True := eq_true (by omega); obtain ⟨go6, co6, eo6, gb6, gl6, cl6, HG6⟩ := Kd.R_form HO228.out (by omega); (first | cases eo6 | (injection eo6 with ea_ en_ ec_; (first | subst ea_ | (injection ea_ with ea_; subst ea_)); subst ec_; clear en_)); have GB6 := Aside0.mk gb6; have GG6 := Aside0.mk HG6; clear gb6 gl6 HG6; obtain ⟨hx6_0, hf6_0⟩ := Kd.R_celln false HO228.out (0 : Int) p6 q6; (try rw [show ((0 : Int)).toNat = 0 from rfl] at hx6_0); (try simp only [Nat.reduceMul, Nat.zero_mul, Nat.zero_add, Nat.reduceAdd] at hx6_0); (try rw [show ((0 : Int)).toNat = 0 from rfl] at hf6_0); (try simp only [Nat.reduceMul, Nat.zero_mul, Nat.zero_add, Nat.reduceAdd] at hf6_0); replace p6 := eq_true p6; replace q6 := eq_true q6; obtain ⟨hy11_, hz11_⟩ := Kd.R_celln false HO228.out (0 : Int) (by omega) (of_decide_eq_true (by first | (with_reducible assumption) | assumption)); (try simp only [Int.reduceToNat, Int.toNat_zero, Int.toNat_ofNat, Nat.reduceMul, Nat.zero_mul, Nat.zero_add] at hy11_ hz11_); (try rw [show ((0 : Int)).toNat = 0 from rfl] at hy11_); (try rw [show ((0 : Int)).toNat = 0 from rfl] at hz11_); have HP11 := Kd.R_putg HO228.out (0 : Int) true) | ((with_reducible refine gate_store (t := 4) (p := 15) rfl ?_); refine store_event (t := 4) (p := 15) (v := ?vo_w12) (w1 := (w9.setCell ⟨go6, (0 : Int).toNat, none⟩ (.bool true))) ?hg ?ho ?hn ?hr ?_; (case ho => rfl); (case hg => rfl); (case hn => rfl); (case hr => first | (go_simp; done) | (go_simp; rfl)); intro w12 hw; have hg : w9.grownBy w12 (some go6) := (by rw [hw]; exact HP11.2); have hp_ : Kd.R Kd.bool 4 w12 w.heap.size (fun _ => True) (.slice (some ⟨go6, 0, none⟩) y226.length co6) y232 := (by rw [hw, Ny232.out]; exact HP11.1); clear HP11; have n0_ := Aside0.mk (hp_); have n1_ := Aside0.mk (Kd.R_over' (v := (.slice (some ⟨go6, 0, none⟩) y226.length co6)) (by (with_reducible repeat (first | apply Kd.R_alloc | apply Kd.R_drewN | apply Kd.R_drew)); exact HO231.out) (Kd.R_typed HO228.out) (by decide) hg); have n2_ := Aside0.mk ((by rw [hw]; exact below_set (HB.out) GB6.out : Below w.heap.size w w12)); clear HO228; clear HO231; clear HB; have HO228 := n0_; have HO231 := n1_; have HB := n2_; clear n0_ n1_ n2_; clear hg hw hp_))
       go_loopg [6, 7] k (fun kq v6 v7 w' => ∃ (x5_1 : List Bool) (x6_1 : List Int) (x7_1 : Int), v7 = .int .i64 x7_1 ∧ Aside0 (purflingref04_reached.l0 kq l0 a1 x5_1 x6_1 x7_1 = some r) ∧ Aside0 (kq ≤ k) ∧ Aside0 (Kd.R Kd.bool 4 w' w.heap.size (fun _ => True) (.slice (some ⟨go6, 0, none⟩) y226.length co6) x5_1) ∧ Aside0 (Kd.R (Kd.int .i64) 3 w' w.heap.size (fun _ => True) v6 x6_1) ∧ Aside0 (Below w.heap.size w w'))
       case atStart => exact ⟨(y232), (y229), (0), (by first | rfl | (simp; done) | (simp [*]; done)), H', ⟨Nat.le_refl _⟩, ⟨by (with_reducible repeat (first | apply Kd.R_alloc | apply Kd.R_drewN | apply Kd.R_drew)); exact HO228.out⟩, ⟨by (with_reducible repeat (first | apply Kd.R_alloc | apply Kd.R_drewN | apply Kd.R_drew)); exact HO231.out⟩, ⟨by repeat (first | exact HB.out | apply below_alloc | apply pw_below_drewN | apply below_drew1)⟩⟩
       case round =>
        clear H'
        try clear p2
        try clear c3
        try clear c3b0
        try clear c3b1
        try clear c4
        try clear c4b0
        try clear c4b1
        try clear c5
        try clear c5b0
        try clear c5b1
        try clear p6
        try clear q6
        try clear hx6
        try clear qi6
        try clear hf6
        try clear hx6_0
        try clear p6
        try clear q6
        obtain ⟨x5_1, x6_1, x7_1, rfl, HA, HK1, HO_5, HO_6, HB⟩ := hrel
        have hl5_1 := (Kd.R_reads' HO_5.out).1
        rw [hl5_1] at HO_5
        (try simp only [hl5_1])
        (try simp only [hl5_1] at HO_6)
        cases gk with
        | zero => exact absurd HA.out (by simp [purflingref04_reached.l0])
        | succ k1 =>
         have H := HA.out
         clear HA
         simp only [purflingref04_reached.l0] at H
         by_cases c13 : x7_1 < (x6_1.length : Int)
         · rw [if_pos c13] at H
           have c13b0 : decide (x7_1 < (x6_1.length : Int)) = true := decide_eq_true c13
           clear c13
           have H' := Aside0.mk H
           clear H
           obtain ⟨Ao14, co14, eo14⟩ := Kd.R_slice HO_6.out
           subst eo14
           go_wp2
           go_loopg [6, 8] k1 (fun kq v6 v8 w' => ∃ (x5_2 : List Bool) (x6_2 : List Int) (x8_2 : Int), v8 = .int .i64 x8_2 ∧ Aside0 (purflingref04_reached.l1 kq l0 a1 x5_2 x6_2 x7_1 x8_2 = some r) ∧ Aside0 (kq ≤ k1) ∧ Aside0 (Kd.R Kd.bool 4 w' w.heap.size (fun _ => True) (.slice (some ⟨go6, 0, none⟩) x5_1.length co6) x5_2) ∧ Aside0 (Kd.R (Kd.int .i64) 3 w' w.heap.size (fun _ => True) v6 x6_2) ∧ Aside0 (Below w.heap.size w w'))
           case atStart => exact ⟨(x5_1), (x6_1), (0), (by first | rfl | (simp; done) | (simp [*]; done)), H', ⟨Nat.le_refl _⟩, ⟨by (try simp only [hl5_1]); (with_reducible repeat (first | apply Kd.R_alloc | apply Kd.R_drewN | apply Kd.R_drew)); exact HO_5.out⟩, ⟨by (try simp only [hl5_1]); (with_reducible repeat (first | apply Kd.R_alloc | apply Kd.R_drewN | apply Kd.R_drew)); exact HO_6.out⟩, ⟨by repeat (first | exact HB.out | apply below_alloc | apply pw_below_drewN | apply below_drew1)⟩⟩
           case round =>
            clear H'
            try clear c1
            try clear p2
            try clear c3
            try clear c3b0
            try clear c3b1
            try clear c4
            try clear c4b0
            try clear c4b1
            try clear c5
            try clear c5b0
            try clear c5b1
            try clear p6
            try clear q6
            try clear hx6
            try clear qi6
            try clear hf6
            try clear c13
            try clear c13b0
            try clear hx6_0
            try clear p2
            try clear p6
            try clear q6
            obtain ⟨x5_2, x6_2, x8_2, rfl, HA, HK2, HO_5, HO_6, HB⟩ := hrel
            have hl5_2 := (Kd.R_reads' HO_5.out).1
            rw [hl5_2] at HO_5
            (try simp only [hl5_2])
            (try simp only [hl5_2] at HO_6)
            cases gk with
            | zero => exact absurd HA.out (by simp [purflingref04_reached.l1])
            | succ k2 =>
             have H := HA.out
             clear HA
             simp only [purflingref04_reached.l1] at H
             by_cases c15 : 0 ≤ x7_1
             · rw [if_pos c15] at H
               have c15b0 : decide (0 ≤ x7_1) = true := decide_eq_true c15
               clear c15
               by_cases c16 : x7_1 < (x6_2.length : Int)
               · rw [if_pos c16] at H
                 have c16b0 : decide (x7_1 < (x6_2.length : Int)) = true := decide_eq_true c16
                 clear c16
                 by_cases c17 : 0 ≤ (rd x6_2 x7_1)
                 · rw [if_pos c17] at H
                   have c17b0 : decide (0 ≤ (rd x6_2 x7_1)) = true := decide_eq_true c17
                   clear c17
                   by_cases c18 : (rd x6_2 x7_1) < (l0.length : Int)
                   · rw [if_pos c18] at H
                     have c18b0 : decide ((rd x6_2 x7_1) < (l0.length : Int)) = true := decide_eq_true c18
                     clear c18
                     by_cases c19 : x8_2 < (((rd_T48 l0 (rd x6_2 x7_1)).f1).length : Int)
                     · rw [if_pos c19] at H
                       have c19b0 : decide (x8_2 < (((rd_T48 l0 (rd x6_2 x7_1)).f1).length : Int)) = true := decide_eq_true c19
                       clear c19
                       by_cases c20 : 0 ≤ x8_2
                       · rw [if_pos c20] at H
                         have c20b0 : decide (0 ≤ x8_2) = true := decide_eq_true c20
                         clear c20
                         by_cases c21 : 0 ≤ (rd ((rd_T48 l0 (rd x6_2 x7_1)).f1) x8_2)
                         · rw [if_pos c21] at H
                           have c21b0 : decide (0 ≤ (rd ((rd_T48 l0 (rd x6_2 x7_1)).f1) x8_2)) = true := decide_eq_true c21
                           clear c21
                           by_cases c22 : (rd ((rd_T48 l0 (rd x6_2 x7_1)).f1) x8_2) < (x5_2.length : Int)
                           · rw [if_pos c22] at H
                             have c22b0 : decide ((rd ((rd_T48 l0 (rd x6_2 x7_1)).f1) x8_2) < (x5_2.length : Int)) = true := decide_eq_true c22
                             clear c22
                             obtain ⟨bq23, hbq23⟩ : ∃ b_ : Bool, b_ = (rdOf false x5_2 (rd ((rd_T48 l0 (rd x6_2 x7_1)).f1) x8_2)) := ⟨_, rfl⟩
                             replace H : (if (bq23 = true) then (purflingref04_reached.l1 k2 l0 a1 x5_2 x6_2 x7_1 (wrap64 (x8_2 + 1))) else (if x6_2.length < 17592186044416 then (purflingref04_reached.l1 k2 l0 a1 (x5_2.set ((rd ((rd_T48 l0 (rd x6_2 x7_1)).f1) x8_2) : Int).toNat true) (x6_2 ++ [rd ((rd_T48 l0 (rd x6_2 x7_1)).f1) x8_2]) x7_1 (wrap64 (x8_2 + 1))) else (none))) = some r := by rw [← hbq23] at H; exact H
                             have Nbq23 := Aside0.mk hbq23
                             clear hbq23
                             by_cases c24 : (bq23 = true)
                             · subst c24
                               have H1 : (purflingref04_reached.l1 k2 l0 a1 x5_2 x6_2 x7_1 (wrap64 (x8_2 + 1))) = some r := by rw [if_pos rfl] at H; exact H
                               clear H
                               have H := H1
                               clear H1
                               have H' := Aside0.mk H
                               clear H
                               obtain ⟨Ao25, co25, eo25⟩ := Kd.R_slice HO_6.out
                               subst eo25
                               have p234 : 0 ≤ (x7_1 : Int) := of_decide_eq_true (by first | (with_reducible assumption) | assumption)
                               have q234 : x7_1 < (x6_2.length : Int) := of_decide_eq_true (by first | (with_reducible assumption) | assumption)
                               obtain ⟨ad234, e234, hx234_0⟩ := Kd.at_int (Kd.R_reads' HO_6.out).2.2 x7_1 p234 q234
                               cases e234
                               replace p234 := eq_true p234
                               replace q234 := eq_true q234
                               have p235 : 0 ≤ ((rd x6_2 x7_1) : Int) := of_decide_eq_true (by first | (with_reducible assumption) | assumption)
                               have q235 : (rd x6_2 x7_1) < (l0.length : Int) := of_decide_eq_true (by first | (with_reducible assumption) | assumption)
                               obtain ⟨ad235, A235_1, c235_1, A235_31, c235_31, e235, hx235_0, hx235_1, -, -, -, -, -, -, -, -, -, -, -, -, -, -, -, -, -, -, -, -, hx235_22, -, -, hx235_25, hx235_26, -, -, hx235_29, hx235_30, hx235_31, -, -, hl235_1, hi235_1, hl235_31, hi235_31⟩ := at_T48 HR0.out (rd x6_2 x7_1) p235 q235
                               (try rw [← Nbq23.out] at hx235_25)
                               (try rw [← Nbq23.out] at hx235_26)
                               (try rw [← Nbq23.out] at hx235_29)
                               (try rw [← Nbq23.out] at hx235_30)
                               cases e235
                               replace hx235_0 := (HB.out.cell (World.block_lt_of_cell? w _ hx235_0)).trans hx235_0
                               replace hx235_1 := (HB.out.cell (World.block_lt_of_cell? w _ hx235_1)).trans hx235_1
                               replace hx235_22 := (HB.out.cell (World.block_lt_of_cell? w _ hx235_22)).trans hx235_22
                               replace hx235_25 := (HB.out.cell (World.block_lt_of_cell? w _ hx235_25)).trans hx235_25
                               replace hx235_26 := (HB.out.cell (World.block_lt_of_cell? w _ hx235_26)).trans hx235_26
                               replace hx235_29 := (HB.out.cell (World.block_lt_of_cell? w _ hx235_29)).trans hx235_29
                               replace hx235_30 := (HB.out.cell (World.block_lt_of_cell? w _ hx235_30)).trans hx235_30
                               replace hx235_31 := (HB.out.cell (World.block_lt_of_cell? w _ hx235_31)).trans hx235_31
                               have HR235_1 := Aside0.mk hi235_1
                               have HC235_1 := Aside0.mk hl235_1
                               clear hi235_1 hl235_1
                               have HR235_31 := Aside0.mk hi235_31
                               have HC235_31 := Aside0.mk hl235_31
                               clear hi235_31 hl235_31
                               replace p235 := eq_true p235
                               replace q235 := eq_true q235
                               have p236 : 0 ≤ (x7_1 : Int) := of_decide_eq_true (by first | (with_reducible assumption) | assumption)
                               have q236 : x7_1 < (x6_2.length : Int) := of_decide_eq_true (by first | (with_reducible assumption) | assumption)
                               obtain ⟨ad236, e236, hx236_0⟩ := Kd.at_int (Kd.R_reads' HO_6.out).2.2 x7_1 p236 q236
                               obtain rfl : ad234 = ad236 := (by injection e236)
                               replace p236 := eq_true p236
                               replace q236 := eq_true q236
                               have p237 : 0 ≤ ((rd x6_2 x7_1) : Int) := of_decide_eq_true (by first | (with_reducible assumption) | assumption)
                               have q237 : (rd x6_2 x7_1) < (l0.length : Int) := of_decide_eq_true (by first | (with_reducible assumption) | assumption)
                               obtain ⟨ad237, A237_1, c237_1, A237_31, c237_31, e237, hx237_0, hx237_1, -, -, -, -, -, -, -, -, -, -, -, -, -, -, -, -, -, -, -, -, hx237_22, -, -, hx237_25, hx237_26, -, -, hx237_29, hx237_30, hx237_31, -, -, hl237_1, hi237_1, hl237_31, hi237_31⟩ := at_T48 HR0.out (rd x6_2 x7_1) p237 q237
                               (try rw [← Nbq23.out] at hx237_25)
                               (try rw [← Nbq23.out] at hx237_26)
                               (try rw [← Nbq23.out] at hx237_29)
                               (try rw [← Nbq23.out] at hx237_30)
                               obtain rfl : ad235 = ad237 := (by injection e237)
                               replace hx237_0 := (HB.out.cell (World.block_lt_of_cell? w _ hx237_0)).trans hx237_0
                               replace hx237_1 := (HB.out.cell (World.block_lt_of_cell? w _ hx237_1)).trans hx237_1
                               replace hx237_22 := (HB.out.cell (World.block_lt_of_cell? w _ hx237_22)).trans hx237_22
                               replace hx237_25 := (HB.out.cell (World.block_lt_of_cell? w _ hx237_25)).trans hx237_25
                               replace hx237_26 := (HB.out.cell (World.block_lt_of_cell? w _ hx237_26)).trans hx237_26
                               replace hx237_29 := (HB.out.cell (World.block_lt_of_cell? w _ hx237_29)).trans hx237_29
                               replace hx237_30 := (HB.out.cell (World.block_lt_of_cell? w _ hx237_30)).trans hx237_30
                               replace hx237_31 := (HB.out.cell (World.block_lt_of_cell? w _ hx237_31)).trans hx237_31
                               have HR237_1 := Aside0.mk hi237_1
                               have HC237_1 := Aside0.mk hl237_1
                               clear hi237_1 hl237_1
                               have HR237_31 := Aside0.mk hi237_31
                               have HC237_31 := Aside0.mk hl237_31
                               clear hi237_31 hl237_31
                               replace p237 := eq_true p237
                               replace q237 := eq_true q237
                               have ea_ := Option.some.inj (hx235_1.symm.trans hx237_1)
                               injection ea_ with ea_ en_ ec_
                               subst ea_
                               subst ec_
                               clear en_
                               have ea_ := Option.some.inj (hx235_31.symm.trans hx237_31)
                               injection ea_ with ea_ en_ ec_
                               subst ea_
                               subst ec_
                               clear en_
                               have p238 : 0 ≤ (x8_2 : Int) := of_decide_eq_true (by first | (with_reducible assumption) | assumption)
                               have q238 : x8_2 < (((rd_T48 l0 (rd x6_2 x7_1)).f1).length : Int) := of_decide_eq_true (by first | (with_reducible assumption) | assumption)
                               obtain ⟨ad238, e238, hx238_0⟩ := Kd.at_int HR237_1.out x8_2 p238 q238
                               cases e238
                               replace hx238_0 := (HB.out.cell (World.block_lt_of_cell? w _ hx238_0)).trans hx238_0
                               replace p238 := eq_true p238
                               replace q238 := eq_true q238
                               have p239 : 0 ≤ ((rd ((rd_T48 l0 (rd x6_2 x7_1)).f1) x8_2) : Int) := of_decide_eq_true (by first | (with_reducible assumption) | assumption)
                               have q239 : (rd ((rd_T48 l0 (rd x6_2 x7_1)).f1) x8_2) < (x5_2.length : Int) := of_decide_eq_true (by first | (with_reducible assumption) | assumption)
                               obtain ⟨ad239, e239, hx239_0⟩ := Kd.at_bool (Kd.R_reads' HO_5.out).2.2 (rd ((rd_T48 l0 (rd x6_2 x7_1)).f1) x8_2) p239 q239
                               (try rw [← Nbq23.out] at hx239_0)
                               obtain rfl : (⟨go6, 0, none⟩ : Addr) = ad239 := (by injection e239)
                               (first | simp only [add_plain] at hx239_0 | simp only [add_at] at hx239_0 | simp only [Addr.add, Nat.zero_add] at hx239_0 | skip)
                               replace p239 := eq_true p239
                               replace q239 := eq_true q239
                               go_wp2
                               (try simp only [← hl5_2])
                               go_roundg k2
                               case measure => have := HK1.out; have := HK2.out; omega
                               case rel => exact ⟨(x5_2), (x6_2), (wrap64 (x8_2 + 1)), (by first | rfl | (simp; done) | (simp [*]; done)), H', ⟨by have := HK1.out; have := HK2.out; omega⟩, ⟨by (try simp only [hl5_1]); (try simp only [hl5_2]); (with_reducible repeat (first | apply Kd.R_alloc | apply Kd.R_drewN | apply Kd.R_drew)); exact HO_5.out⟩, ⟨by (try simp only [hl5_1]); (try simp only [hl5_2]); (with_reducible repeat (first | apply Kd.R_alloc | apply Kd.R_drewN | apply Kd.R_drew)); exact HO_6.out⟩, ⟨by repeat (first | exact HB.out | apply below_alloc | apply pw_below_drewN | apply below_drew1)⟩⟩
                             · replace c24 := Bool.eq_false_iff.mpr c24
                               subst c24
                               have H1 : (if x6_2.length < 17592186044416 then (purflingref04_reached.l1 k2 l0 a1 (x5_2.set ((rd ((rd_T48 l0 (rd x6_2 x7_1)).f1) x8_2) : Int).toNat true) (x6_2 ++ [rd ((rd_T48 l0 (rd x6_2 x7_1)).f1) x8_2]) x7_1 (wrap64 (x8_2 + 1))) else (none)) = some r := by rw [if_neg (show ¬ (false = true) by decide)] at H; exact H
                               clear H
                               have H := H1
                               clear H1
                               obtain ⟨y240, hy240⟩ : ∃ y_ : List Bool, y_ = (x5_2.set ((rd ((rd_T48 l0 (rd x6_2 x7_1)).f1) x8_2) : Int).toNat true) := ⟨_, rfl⟩
                               replace H : (if x6_2.length < 17592186044416 then (purflingref04_reached.l1 k2 l0 a1 y240 (x6_2 ++ [rd ((rd_T48 l0 (rd x6_2 x7_1)).f1) x8_2]) x7_1 (wrap64 (x8_2 + 1))) else (none)) = some r := by first | (rw [hy240]; with_reducible exact H) | (have H2_ := (Option.bind_some _ _).symm.trans H; rw [hy240]; with_reducible exact H2_) | (have H2_ := (Option.bind_some _ _).symm.trans H; with_reducible exact H2_) | with_reducible exact H | (rw [hy240]; exact H) | exact H
                               have Ny240 := Aside0.mk hy240
                               clear hy240
                               by_cases c27 : x6_2.length < 17592186044416
                               · rw [if_pos c27] at H
                                 have LMc27 := Aside0.mk c27
                                 clear c27
                                 obtain ⟨y241, hy241⟩ : ∃ y_ : List Int, y_ = (x6_2 ++ [rd ((rd_T48 l0 (rd x6_2 x7_1)).f1) x8_2]) := ⟨_, rfl⟩
                                 replace H : (purflingref04_reached.l1 k2 l0 a1 y240 y241 x7_1 (wrap64 (x8_2 + 1))) = some r := by first | (rw [hy241]; with_reducible exact H) | (have H2_ := (Option.bind_some _ _).symm.trans H; rw [hy241]; with_reducible exact H2_) | (have H2_ := (Option.bind_some _ _).symm.trans H; with_reducible exact H2_) | with_reducible exact H | (rw [hy241]; exact H) | exact H
                                 have Ny241 := Aside0.mk hy241
                                 clear hy241
                                 have H' := Aside0.mk H
                                 clear H
                                 obtain ⟨Ao28, co28, eo28⟩ := Kd.R_slice HO_6.out
                                 subst eo28
                                 have p234 : 0 ≤ (x7_1 : Int) := of_decide_eq_true (by first | (with_reducible assumption) | assumption)
                                 have q234 : x7_1 < (x6_2.length : Int) := of_decide_eq_true (by first | (with_reducible assumption) | assumption)
                                 obtain ⟨ad234, e234, hx234_0⟩ := Kd.at_int (Kd.R_reads' HO_6.out).2.2 x7_1 p234 q234
                                 cases e234
                                 replace p234 := eq_true p234
                                 replace q234 := eq_true q234
                                 have p235 : 0 ≤ ((rd x6_2 x7_1) : Int) := of_decide_eq_true (by first | (with_reducible assumption) | assumption)
                                 have q235 : (rd x6_2 x7_1) < (l0.length : Int) := of_decide_eq_true (by first | (with_reducible assumption) | assumption)
                                 obtain ⟨ad235, A235_1, c235_1, A235_31, c235_31, e235, hx235_0, hx235_1, -, -, -, -, -, -, -, -, -, -, -, -, -, -, -, -, -, -, -, -, hx235_22, -, -, hx235_25, hx235_26, -, -, hx235_29, hx235_30, hx235_31, -, -, hl235_1, hi235_1, hl235_31, hi235_31⟩ := at_T48 HR0.out (rd x6_2 x7_1) p235 q235
                                 (try rw [← Nbq23.out] at hx235_25)
                                 (try rw [← Nbq23.out] at hx235_26)
                                 (try rw [← Nbq23.out] at hx235_29)
                                 (try rw [← Nbq23.out] at hx235_30)
                                 cases e235
                                 replace hx235_0 := (HB.out.cell (World.block_lt_of_cell? w _ hx235_0)).trans hx235_0
                                 replace hx235_1 := (HB.out.cell (World.block_lt_of_cell? w _ hx235_1)).trans hx235_1
                                 replace hx235_22 := (HB.out.cell (World.block_lt_of_cell? w _ hx235_22)).trans hx235_22
                                 replace hx235_25 := (HB.out.cell (World.block_lt_of_cell? w _ hx235_25)).trans hx235_25
                                 replace hx235_26 := (HB.out.cell (World.block_lt_of_cell? w _ hx235_26)).trans hx235_26
                                 replace hx235_29 := (HB.out.cell (World.block_lt_of_cell? w _ hx235_29)).trans hx235_29
                                 replace hx235_30 := (HB.out.cell (World.block_lt_of_cell? w _ hx235_30)).trans hx235_30
                                 replace hx235_31 := (HB.out.cell (World.block_lt_of_cell? w _ hx235_31)).trans hx235_31
                                 have HR235_1 := Aside0.mk hi235_1
                                 have HC235_1 := Aside0.mk hl235_1
                                 clear hi235_1 hl235_1
                                 have HR235_31 := Aside0.mk hi235_31
                                 have HC235_31 := Aside0.mk hl235_31
                                 clear hi235_31 hl235_31
                                 replace p235 := eq_true p235
                                 replace q235 := eq_true q235
                                 have p236 : 0 ≤ (x7_1 : Int) := of_decide_eq_true (by first | (with_reducible assumption) | assumption)
                                 have q236 : x7_1 < (x6_2.length : Int) := of_decide_eq_true (by first | (with_reducible assumption) | assumption)
                                 obtain ⟨ad236, e236, hx236_0⟩ := Kd.at_int (Kd.R_reads' HO_6.out).2.2 x7_1 p236 q236
                                 obtain rfl : ad234 = ad236 := (by injection e236)
                                 replace p236 := eq_true p236
                                 replace q236 := eq_true q236
                                 have p237 : 0 ≤ ((rd x6_2 x7_1) : Int) := of_decide_eq_true (by first | (with_reducible assumption) | assumption)
                                 have q237 : (rd x6_2 x7_1) < (l0.length : Int) := of_decide_eq_true (by first | (with_reducible assumption) | assumption)
                                 obtain ⟨ad237, A237_1, c237_1, A237_31, c237_31, e237, hx237_0, hx237_1, -, -, -, -, -, -, -, -, -, -, -, -, -, -, -, -, -, -, -, -, hx237_22, -, -, hx237_25, hx237_26, -, -, hx237_29, hx237_30, hx237_31, -, -, hl237_1, hi237_1, hl237_31, hi237_31⟩ := at_T48 HR0.out (rd x6_2 x7_1) p237 q237
                                 (try rw [← Nbq23.out] at hx237_25)
                                 (try rw [← Nbq23.out] at hx237_26)
                                 (try rw [← Nbq23.out] at hx237_29)
                                 (try rw [← Nbq23.out] at hx237_30)
                                 obtain rfl : ad235 = ad237 := (by injection e237)
                                 replace hx237_0 := (HB.out.cell (World.block_lt_of_cell? w _ hx237_0)).trans hx237_0
                                 replace hx237_1 := (HB.out.cell (World.block_lt_of_cell? w _ hx237_1)).trans hx237_1
                                 replace hx237_22 := (HB.out.cell (World.block_lt_of_cell? w _ hx237_22)).trans hx237_22
                                 replace hx237_25 := (HB.out.cell (World.block_lt_of_cell? w _ hx237_25)).trans hx237_25
                                 replace hx237_26 := (HB.out.cell (World.block_lt_of_cell? w _ hx237_26)).trans hx237_26
                                 replace hx237_29 := (HB.out.cell (World.block_lt_of_cell? w _ hx237_29)).trans hx237_29
                                 replace hx237_30 := (HB.out.cell (World.block_lt_of_cell? w _ hx237_30)).trans hx237_30
                                 replace hx237_31 := (HB.out.cell (World.block_lt_of_cell? w _ hx237_31)).trans hx237_31
                                 have HR237_1 := Aside0.mk hi237_1
                                 have HC237_1 := Aside0.mk hl237_1
                                 clear hi237_1 hl237_1
                                 have HR237_31 := Aside0.mk hi237_31
                                 have HC237_31 := Aside0.mk hl237_31
                                 clear hi237_31 hl237_31
                                 replace p237 := eq_true p237
                                 replace q237 := eq_true q237
                                 have ea_ := Option.some.inj (hx235_1.symm.trans hx237_1)
                                 injection ea_ with ea_ en_ ec_
                                 subst ea_
                                 subst ec_
                                 clear en_
                                 have ea_ := Option.some.inj (hx235_31.symm.trans hx237_31)
                                 injection ea_ with ea_ en_ ec_
                                 subst ea_
                                 subst ec_
                                 clear en_
                                 have p238 : 0 ≤ (x8_2 : Int) := of_decide_eq_true (by first | (with_reducible assumption) | assumption)
                                 have q238 : x8_2 < (((rd_T48 l0 (rd x6_2 x7_1)).f1).length : Int) := of_decide_eq_true (by first | (with_reducible assumption) | assumption)
                                 obtain ⟨ad238, e238, hx238_0⟩ := Kd.at_int HR237_1.out x8_2 p238 q238
                                 cases e238
                                 replace hx238_0 := (HB.out.cell (World.block_lt_of_cell? w _ hx238_0)).trans hx238_0
                                 replace p238 := eq_true p238
                                 replace q238 := eq_true q238
                                 have p239 : 0 ≤ ((rd ((rd_T48 l0 (rd x6_2 x7_1)).f1) x8_2) : Int) := of_decide_eq_true (by first | (with_reducible assumption) | assumption)
                                 have q239 : (rd ((rd_T48 l0 (rd x6_2 x7_1)).f1) x8_2) < (x5_2.length : Int) := of_decide_eq_true (by first | (with_reducible assumption) | assumption)
                                 obtain ⟨ad239, e239, hx239_0⟩ := Kd.at_bool (Kd.R_reads' HO_5.out).2.2 (rd ((rd_T48 l0 (rd x6_2 x7_1)).f1) x8_2) p239 q239
                                 (try rw [← Nbq23.out] at hx239_0)
                                 obtain rfl : (⟨go6, 0, none⟩ : Addr) = ad239 := (by injection e239)
                                 (first | simp only [add_plain] at hx239_0 | simp only [add_at] at hx239_0 | simp only [Addr.add, Nat.zero_add] at hx239_0 | skip)
                                 replace p239 := eq_true p239
                                 replace q239 := eq_true q239
                                 have p26 : 0 ≤ ((rd ((rd_T48 l0 (rd x6_2 x7_1)).f1) x8_2) : Int) := of_decide_eq_true (by first | (with_reducible assumption) | assumption)
                                 have q26 : ((rd ((rd_T48 l0 (rd x6_2 x7_1)).f1) x8_2) : Int) < ((x5_2.length : Int) : Int) := of_decide_eq_true (by first | (with_reducible assumption) | assumption)
                                 obtain ⟨hx26_0, hf26_0⟩ := Kd.R_celln false HO_5.out ((rd ((rd_T48 l0 (rd x6_2 x7_1)).f1) x8_2) : Int) p26 q26
                                 replace p26 := eq_true p26
                                 replace q26 := eq_true q26
                                 have HP29 := Kd.R_putg HO_5.out ((rd ((rd_T48 l0 (rd x6_2 x7_1)).f1) x8_2) : Int) true
                                 go_wp2_with (first | ((with_reducible refine gate_store (t := 4) (p := 53) rfl ?_); refine store_event (t := 4) (p := 53) (v := ?vo_w30) (w1 := (wr.setCell ⟨go6, ((rd ((rd_T48 l0 (rd x6_2 x7_1)).f1) x8_2) : Int).toNat, none⟩ (.bool true))) ?hg ?ho ?hn ?hr ?_; (case ho => rfl); (case hg => rfl); (case hn => rfl); (case hr => first | (go_simp; done) | (go_simp; rfl)); intro w30 hw; have hg : wr.grownBy w30 (some go6) := (by rw [hw]; exact HP29.2); have hp_ : Kd.R Kd.bool 4 w30 w.heap.size (fun _ => True) (.slice (some ⟨go6, 0, none⟩) x5_2.length co6) y240 := (by rw [hw, Ny240.out]; exact HP29.1); clear HP29; have n0_ := Aside0.mk (hp_); have n1_ := Aside0.mk (Kd.R_over' (v := (.slice (some ⟨go6, 0, none⟩) x5_2.length co6)) (by (with_reducible repeat (first | apply Kd.R_alloc | apply Kd.R_drewN | apply Kd.R_drew)); exact HO_6.out) (Kd.R_typed HO_5.out) (by decide) hg); have n2_ := Aside0.mk ((by rw [hw]; exact below_set (HB.out) GB6.out : Below w.heap.size w w30)); clear HO_5; clear HO_6; clear HB; have HO_5 := n0_; have HO_6 := n1_; have HB := n2_; clear n0_ n1_ n2_; clear hg hw hp_) | ((with_reducible refine gate_builtin (b := .append) (xs := #[.tmp 54, .tmp 56]) rfl ?_); at_builtin; refine Kd.R_append (Kd.int .i64) (w0 := w) w.heap.size rfl (.tmp 54) (.tmp 56) 33 3 (.int .i64 0) 8 rfl Try.underlying33 info3 rfl (by decide) (by omega) (.slice (some ad234) x6_2.length co28) x6_2 (rd ((rd_T48 l0 (rd x6_2 x7_1)).f1) x8_2) [.int .i64 (rd ((rd_T48 l0 (rd x6_2 x7_1)).f1) x8_2)] (fun _ => True) (fun _ => False) rfl rfl ?aP (fun _ hk => hk.elim) ?aF ?aO ?aB ?aS ?aL ?_; (case aP => exact rfl); (case aB => exact (by repeat (first | exact HB.out | apply below_alloc | apply pw_below_drewN | apply below_drew1))); (case aF => exact (fun _ _ => trivial)); (case aO => exact (by (with_reducible repeat (first | apply Kd.R_alloc | apply Kd.R_drewN | apply Kd.R_drew)); exact HO_6.out)); (case aS => exact (below_size (by repeat (first | exact HB.out | apply below_alloc | apply pw_below_drewN | apply below_drew1)))); (case aL => have := LMc27.out; omega); intro v242 w31 ho hb hg hat; rw [← Ny241.out] at ho; have n0_ := Aside0.mk (Kd.R_over' (by (with_reducible repeat (first | apply Kd.R_alloc | apply Kd.R_drewN | apply Kd.R_drew)); exact HO_5.out) (Kd.R_typed (by (with_reducible repeat (first | apply Kd.R_alloc | apply Kd.R_drewN | apply Kd.R_drew)); exact HO_6.out)) (by decide) hg); have n1_ := Aside0.mk (hb); have n2_ := Aside0.mk (ho); clear HO_5; clear HB; clear HO_6; have HO_5 := n0_; have HB := n1_; have HO243 := n2_; clear n0_ n1_ n2_; clear ho hb hg hat))
                                 (try simp only [← hl5_2])
                                 go_roundg k2
                                 case measure => have := HK1.out; have := HK2.out; omega
                                 case rel => exact ⟨(y240), (y241), (wrap64 (x8_2 + 1)), (by first | rfl | (simp; done) | (simp [*]; done)), H', ⟨by have := HK1.out; have := HK2.out; omega⟩, ⟨by (try simp only [hl5_1]); (try simp only [hl5_2]); (with_reducible repeat (first | apply Kd.R_alloc | apply Kd.R_drewN | apply Kd.R_drew)); exact HO_5.out⟩, ⟨by (try simp only [hl5_1]); (try simp only [hl5_2]); (with_reducible repeat (first | apply Kd.R_alloc | apply Kd.R_drewN | apply Kd.R_drew)); exact HO243.out⟩, ⟨by repeat (first | exact HB.out | apply below_alloc | apply pw_below_drewN | apply below_drew1)⟩⟩
                               · rw [if_neg c27] at H
                                 exact absurd H (by simp)
                           · rw [if_neg c22] at H
                             exact absurd H (by simp)
                         · rw [if_neg c21] at H
                           exact absurd H (by simp)
                       · rw [if_neg c20] at H
                         exact absurd H (by simp)
                     · rw [if_neg c19] at H
                       have c19b0 : decide (x8_2 < (((rd_T48 l0 (rd x6_2 x7_1)).f1).length : Int)) = false := decide_eq_false c19
                       clear c19
                       have H' := Aside0.mk H
                       clear H
                       obtain ⟨Ao32, co32, eo32⟩ := Kd.R_slice HO_6.out
                       subst eo32
                       have p234 : 0 ≤ (x7_1 : Int) := of_decide_eq_true (by first | (with_reducible assumption) | assumption)
                       have q234 : x7_1 < (x6_2.length : Int) := of_decide_eq_true (by first | (with_reducible assumption) | assumption)
                       obtain ⟨ad234, e234, hx234_0⟩ := Kd.at_int (Kd.R_reads' HO_6.out).2.2 x7_1 p234 q234
                       cases e234
                       replace p234 := eq_true p234
                       replace q234 := eq_true q234
                       have p235 : 0 ≤ ((rd x6_2 x7_1) : Int) := of_decide_eq_true (by first | (with_reducible assumption) | assumption)
                       have q235 : (rd x6_2 x7_1) < (l0.length : Int) := of_decide_eq_true (by first | (with_reducible assumption) | assumption)
                       obtain ⟨ad235, A235_1, c235_1, A235_31, c235_31, e235, hx235_0, hx235_1, -, -, -, -, -, -, -, -, -, -, -, -, -, -, -, -, -, -, -, -, hx235_22, -, -, hx235_25, hx235_26, -, -, hx235_29, hx235_30, hx235_31, -, -, hl235_1, hi235_1, hl235_31, hi235_31⟩ := at_T48 HR0.out (rd x6_2 x7_1) p235 q235
                       cases e235
                       replace hx235_0 := (HB.out.cell (World.block_lt_of_cell? w _ hx235_0)).trans hx235_0
                       replace hx235_1 := (HB.out.cell (World.block_lt_of_cell? w _ hx235_1)).trans hx235_1
                       replace hx235_22 := (HB.out.cell (World.block_lt_of_cell? w _ hx235_22)).trans hx235_22
                       replace hx235_25 := (HB.out.cell (World.block_lt_of_cell? w _ hx235_25)).trans hx235_25
                       replace hx235_26 := (HB.out.cell (World.block_lt_of_cell? w _ hx235_26)).trans hx235_26
                       replace hx235_29 := (HB.out.cell (World.block_lt_of_cell? w _ hx235_29)).trans hx235_29
                       replace hx235_30 := (HB.out.cell (World.block_lt_of_cell? w _ hx235_30)).trans hx235_30
                       replace hx235_31 := (HB.out.cell (World.block_lt_of_cell? w _ hx235_31)).trans hx235_31
                       have HR235_1 := Aside0.mk hi235_1
                       have HC235_1 := Aside0.mk hl235_1
                       clear hi235_1 hl235_1
                       have HR235_31 := Aside0.mk hi235_31
                       have HC235_31 := Aside0.mk hl235_31
                       clear hi235_31 hl235_31
                       replace p235 := eq_true p235
                       replace q235 := eq_true q235
                       go_wp2
                       (try simp only [← hl5_1, ← hl5_2])
                       go_roundg k2
                       case measure => have := HK1.out; have := HK2.out; omega
                       case rel => exact ⟨(x5_2), (x6_2), (wrap64 (x7_1 + 1)), (by first | rfl | (simp; done) | (simp [*]; done)), H', ⟨by have := HK1.out; have := HK2.out; omega⟩, ⟨by (try simp only [hl5_1]); (try simp only [hl5_2]); (with_reducible repeat (first | apply Kd.R_alloc | apply Kd.R_drewN | apply Kd.R_drew)); exact HO_5.out⟩, ⟨by (try simp only [hl5_1]); (try simp only [hl5_2]); (with_reducible repeat (first | apply Kd.R_alloc | apply Kd.R_drewN | apply Kd.R_drew)); exact HO_6.out⟩, ⟨by repeat (first | exact HB.out | apply below_alloc | apply pw_below_drewN | apply below_drew1)⟩⟩
                   · rw [if_neg c18] at H
                     exact absurd H (by simp)
                 · rw [if_neg c17] at H
                   exact absurd H (by simp)
               · rw [if_neg c16] at H
                 exact absurd H (by simp)
             · rw [if_neg c15] at H
               exact absurd H (by simp)
         · rw [if_neg c13] at H
           have c13b0 : decide (x7_1 < (x6_1.length : Int)) = false := decide_eq_false c13
           clear c13
           by_cases c33 : 0 ≤ a1
           · rw [if_pos c33] at H
             have c33b0 : decide (0 ≤ a1) = true := decide_eq_true c33
             clear c33
             by_cases c34 : a1 < (x5_1.length : Int)
             · rw [if_pos c34] at H
               have c34b0 : decide (a1 < (x5_1.length : Int)) = true := decide_eq_true c34
               clear c34
               obtain rfl := Option.some.inj H
               obtain ⟨Ao35, co35, eo35⟩ := Kd.R_slice HO_6.out
               subst eo35
               have p233 : 0 ≤ (a1 : Int) := of_decide_eq_true (by first | (with_reducible assumption) | assumption)
               have q233 : a1 < (x5_1.length : Int) := of_decide_eq_true (by first | (with_reducible assumption) | assumption)
               obtain ⟨ad233, e233, hx233_0⟩ := Kd.at_bool (Kd.R_reads' HO_5.out).2.2 a1 p233 q233
               obtain rfl : (⟨go6, 0, none⟩ : Addr) = ad233 := (by injection e233)
               (first | simp only [add_plain] at hx233_0 | simp only [add_at] at hx233_0 | simp only [Addr.add, Nat.zero_add] at hx233_0 | skip)
               replace p233 := eq_true p233
               replace q233 := eq_true q233
               go_wp2
               go_ret
               exact ⟨by first | rfl | (simp [errW_none, errW_some] <;> rfl) | (simp [*, errW_none, errW_some] <;> rfl), by repeat (first | exact HB.out | apply below_alloc | apply pw_below_drewN | apply below_drew1)⟩
             · rw [if_neg c34] at H
               exact absurd H (by simp)
           · rw [if_neg c33] at H
             exact absurd H (by simp)
     · rw [if_neg c5] at H
       exact absurd H (by simp)
   · rw [if_neg c4] at H
     exact absurd H (by simp)
 · rw [if_neg c3] at H
   exact absurd H (by simp)
end Go.Proofs.Ytdmnaehgngpikaa.K
