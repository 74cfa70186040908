-- PRINTED by print.py (a twelfth state) out of the translation. Not trusted: Lean checks it.
import Derived.Test.YtmmgdokaapphgaaK0
namespace Go.Proofs.Ytmmgdokaapphgaa.K
open Go.RowKit Go.Proofs.YtmmgdokaapphgaaW.PrintWords Go.Proofs.YtmmgdokaapphgaaW.PrintLast Go.Proofs.YtmmgdokaapphgaaW.PrintMore
attribute [local go_sem] max2_int min2_int max_two min_two max_three min_three max_four min_four   -- for this text's walks alone
set_option linter.unusedVariables false
set_option linter.unusedSimpArgs false

/-! ### purflingref04_parents: function 35 -/
mutual
def purflingref04_parents.l0 : Nat → List (S42) → List Int → Int → Option (List Int)
 | 0, _, _, _ => none
 | k + 1, x0, x3, x4 => if x4 < (x0.length : Int) then (purflingref04_parents.l1 k x0 x3 x4 0) else (some x3)
def purflingref04_parents.l1 : Nat → List (S42) → List Int → Int → Int → Option (List Int)
 | 0, _, _, _, _ => none
 | k + 1, x0, x3, x4, x5 => if 0 ≤ x4 then (if x4 < (x0.length : Int) then (if x5 < (((rd_T42 x0 x4).f1).length : Int) then (if 0 ≤ x5 then (if 0 ≤ (rd ((rd_T42 x0 x4).f1) x5) then (if (rd ((rd_T42 x0 x4).f1) x5) < (x3.length : Int) then (purflingref04_parents.l1 k x0 (x3.set ((rd ((rd_T42 x0 x4).f1) x5) : Int).toNat x4) x4 (wrap64 (x5 + 1))) else (none)) else (none)) else (none)) else (purflingref04_parents.l0 k x0 x3 (wrap64 (x4 + 1)))) else (none)) else (none)
end
def purflingref04_parents.f (k : Nat) (l0 : List (S42)) : Option (List Int) := if 0 ≤ (l0.length : Int) then (if ((l0.length : Int) : Int).toNat ≤ 35184372088832 then ((some (List.replicate ((l0.length : Int) : Int).toNat 0 : List Int)).bind fun y143 => (if 0 < (y143.length : Int) then (purflingref04_parents.l0 k l0 (y143.set (0 : Int).toNat (-1)) 0) else (none))) else (none)) else (none)
theorem purflingref04_parents.mono_l : ∀ k, (∀ y0 y1 y2, LeO (purflingref04_parents.l0 k y0 y1 y2) (purflingref04_parents.l0 (k + 1) y0 y1 y2)) ∧ (∀ y0 y1 y2 y3, LeO (purflingref04_parents.l1 k y0 y1 y2 y3) (purflingref04_parents.l1 (k + 1) y0 y1 y2 y3))
 | 0 => ⟨fun _ _ _ r h => by simp [purflingref04_parents.l0] at h, fun _ _ _ _ r h => by simp [purflingref04_parents.l1] at h⟩
 | k + 1 => by
  obtain ⟨ih0, ih1⟩ := purflingref04_parents.mono_l k
  refine ⟨?_, ?_⟩
  · intro y0 y1 y2
    unfold purflingref04_parents.l0
    repeat' first
    | (with_reducible exact ih0 _ _ _)
    | (with_reducible exact ih1 _ _ _ _)
    | (with_reducible exact LeO.refl _)
    | (with_reducible exact LeO.none _)
    | (with_reducible refine LeO.ite ?_ ?_)
    | (with_reducible refine LeO.bind ?_ (fun _ => ?_))
    | exact ih0 _ _ _
    | exact ih1 _ _ _ _
    | exact LeO.none _
    | refine LeO.ite ?_ ?_
    | refine LeO.bind ?_ (fun _ => ?_)
  · intro y0 y1 y2 y3
    unfold purflingref04_parents.l1
    repeat' first
    | (with_reducible exact ih0 _ _ _)
    | (with_reducible exact ih1 _ _ _ _)
    | (with_reducible exact LeO.refl _)
    | (with_reducible exact LeO.none _)
    | (with_reducible refine LeO.ite ?_ ?_)
    | (with_reducible refine LeO.bind ?_ (fun _ => ?_))
    | exact ih0 _ _ _
    | exact ih1 _ _ _ _
    | exact LeO.none _
    | refine LeO.ite ?_ ?_
    | refine LeO.bind ?_ (fun _ => ?_)
theorem purflingref04_parents.mono : ∀ a0 k, LeO (purflingref04_parents.f k a0) (purflingref04_parents.f (k + 1) a0) := by
 intro a0 k
 obtain ⟨ih0, ih1⟩ := purflingref04_parents.mono_l k
 unfold purflingref04_parents.f
 repeat' first
  | (with_reducible exact ih0 _ _ _)
  | (with_reducible exact ih1 _ _ _ _)
  | (with_reducible exact LeO.refl _)
  | (with_reducible exact LeO.none _)
  | (with_reducible refine LeO.ite ?_ ?_)
  | (with_reducible refine LeO.bind ?_ (fun _ => ?_))
  | exact ih0 _ _ _
  | exact ih1 _ _ _ _
  | exact LeO.none _
  | refine LeO.ite ?_ ?_
  | refine LeO.bind ?_ (fun _ => ?_)
set_option maxHeartbeats 8000000 in
set_option maxRecDepth 100000 in
theorem purflingref04_parents.calls (k : Nat) (A0 : Option Addr) (c0 : Nat) (l0 : List (S42)) (r : List Int) (w : World) (hr0 : Kd.C k42 w A0 l0.length l0) (hc0 : l0.length ≤ c0) (h : purflingref04_parents.f k l0 = some r) :
 Calls Try.prog 35 #[.slice A0 l0.length c0] w fun e w' => ∃ v0_ : Value, e = .returned (v0_) ∧ Kd.R (Kd.int .i64) 3 w' w.heap.size (fun _ => True) v0_ r ∧ Below w.heap.size w w' := by
 have HR0 := Aside0.mk hr0
 have HC0 := Aside0.mk hc0
 clear hr0 hc0
 have HB := Aside0.mk (Below.refl w.heap.size w)
 have H : (if 0 ≤ (l0.length : Int) then (if ((l0.length : Int) : Int).toNat ≤ 35184372088832 then ((some (List.replicate ((l0.length : Int) : Int).toNat 0 : List Int)).bind fun y143 => (if 0 < (y143.length : Int) then (purflingref04_parents.l0 k l0 (y143.set (0 : Int).toNat (-1)) 0) else (none))) else (none)) else (none)) = some r := h
 clear h
 by_cases c2 : 0 ≤ (l0.length : Int)
 · rw [if_pos c2] at H
   have c2b0 := eq_true c2
   have c2b1 : decide (0 ≤ (l0.length : Int)) = true := decide_eq_true c2
   clear c2
   by_cases c3 : ((l0.length : Int) : Int).toNat ≤ 35184372088832
   · rw [if_pos c3] at H
     have c3b0 := eq_true c3
     have c3b1 : decide (((l0.length : Int) : Int).toNat ≤ 35184372088832) = true := decide_eq_true c3
     clear c3
     obtain ⟨y143, hy143⟩ : ∃ y_ : List Int, y_ = (List.replicate ((l0.length : Int) : Int).toNat 0) := ⟨_, rfl⟩
     replace H : (if 0 < (y143.length : Int) then (purflingref04_parents.l0 k l0 (y143.set (0 : Int).toNat (-1)) 0) else (none)) = some r := by first | (rw [hy143]; with_reducible exact H) | (have H2_ := (Option.bind_some _ _).symm.trans H; rw [hy143]; with_reducible exact H2_) | (have H2_ := (Option.bind_some _ _).symm.trans H; with_reducible exact H2_) | with_reducible exact H | (rw [hy143]; exact H) | exact H
     have Ny143 := Aside0.mk hy143
     clear hy143
     by_cases c4 : 0 < (y143.length : Int)
     · rw [if_pos c4] at H
       have c4b0 : decide (0 < (y143.length : Int)) = true := decide_eq_true c4
       have c4b1 : decide (0 < y143.length) = true := decide_eq_true (by omega)
       clear c4
       obtain ⟨y146, hy146⟩ : ∃ y_ : List Int, y_ = (y143.set (0 : Int).toNat (-1)) := ⟨_, rfl⟩
       replace H : (purflingref04_parents.l0 k l0 y146 0) = some r := by first | (rw [hy146]; with_reducible exact H) | (have H2_ := (Option.bind_some _ _).symm.trans H; rw [hy146]; with_reducible exact H2_) | (have H2_ := (Option.bind_some _ _).symm.trans H; with_reducible exact H2_) | with_reducible exact H | (rw [hy146]; exact H) | exact H
       have Ny146 := Aside0.mk hy146
       clear hy146
       have H' := Aside0.mk H
       clear H
       go_enter Try.func35, Try.ntmps35
       go_wp2_with (first | ((with_reducible refine gate_dst (N := 8) rfl ?_); refine Kd.R_make (Kd.int .i64) _ 3 rfl (N := 8) rfl 29 _ _ rfl (l0.length : Int) rfl rfl Try.underlying29 (.int .i64 0) 8 info3 rfl (by decide) (by omega) 0 (ok := fun _ => True) (okp := fun _ => True) rfl (fun _ hk => hk) trivial (of_decide_eq_true (by first | (with_reducible assumption) | assumption)) (Nat.le_trans (Nat.mul_le_mul_right _ (of_decide_eq_true (by first | (with_reducible assumption) | assumption) : (l0.length : Int).toNat ≤ 35184372088832)) (by omega)) (Below.refl _ _) (Nat.le_refl _) ?_; intro v144 w6 ho7 hb hg_ hnew_; clear hg_ hnew_; (first | rw [← Ny143.out] at ho7 | (simp only [Int.reduceToNat] at ho7; rw [← Ny143.out] at ho7)); have n0_ := Aside0.mk (Kd.R_lower ho7 (below_size (by repeat (first | (with_reducible first | exact HB.out | apply below_alloc | apply pw_below_drewN | apply below_drew1) | exact HB.out)))); have n1_ := Aside0.mk (below_step (by repeat (first | (with_reducible first | exact HB.out | apply below_alloc | apply pw_below_drewN | apply below_drew1) | exact HB.out)) hb); clear HB; have HO145 := n0_; have HB := n1_; clear n0_ n1_; clear hb ho7; have p5 : 0 ≤ (0 : Int) := (by omega); have q5 : (0 : Int) < ((y143.length : Int) : Int) := of_decide_eq_true (by first | (with_reducible assumption) | assumption); have qi5 : (0 < y143.length) = True := eq_true (by omega); obtain ⟨go5, co5, eo5, gb5, gl5, cl5, HG5⟩ := Kd.R_form HO145.out (by omega); (first | cases eo5 | (injection eo5 with ea_ en_ ec_; (first | subst ea_ | (injection ea_ with ea_; subst ea_)); subst ec_; clear en_)); have GB5 := Aside0.mk gb5; have GG5 := Aside0.mk HG5; clear gb5 gl5 HG5; obtain ⟨hx5_0, hf5_0⟩ := Kd.R_celln 0 HO145.out (0 : Int) p5 q5; (try rw [show ((0 : Int)).toNat = 0 from rfl] at hx5_0); (try simp only [Nat.reduceMul, Nat.zero_mul, Nat.zero_add, Nat.reduceAdd] at hx5_0); (try rw [show ((0 : Int)).toNat = 0 from rfl] at hf5_0); (try simp only [Nat.reduceMul, Nat.zero_mul, Nat.zero_add, Nat.reduceAdd] at hf5_0); replace p5 := eq_true p5; replace q5 := eq_true q5; obtain ⟨hy8_, hz8_⟩ := Kd.R_celln 0 HO145.out (0 : Int) (by omega) (of_decide_eq_true (by first | (with_reducible assumption) | assumption)); (try simp only [Int.reduceToNat, Int.toNat_zero, Int.toNat_ofNat, Nat.reduceMul, Nat.zero_mul, Nat.zero_add] at hy8_ hz8_); (try rw [show ((0 : Int)).toNat = 0 from rfl] at hy8_); (try rw [show ((0 : Int)).toNat = 0 from rfl] at hz8_); have HP8 := Kd.R_putg HO145.out (0 : Int) (-1)) | ((with_reducible refine gate_store (t := 3) (p := 10) rfl ?_); refine store_event (t := 3) (p := 10) (v := ?vo_w9) (w1 := (w6.setCell ⟨go5, (0 : Int).toNat, none⟩ (.int .i64 (-1)))) ?hg ?ho ?hn ?hr ?_; (case ho => rfl); (case hg => rfl); (case hn => rfl); (case hr => first | (go_simp; done) | (go_simp; rfl)); intro w9 hw; have hg : w6.grownBy w9 (some go5) := (by rw [hw]; exact HP8.2); have hp_ : Kd.R (Kd.int .i64) 3 w9 w.heap.size (fun _ => True) (.slice (some ⟨go5, 0, none⟩) y143.length co5) y146 := (by rw [hw, Ny146.out]; exact HP8.1); clear HP8; have n0_ := Aside0.mk (hp_); have n1_ := Aside0.mk ((by rw [hw]; exact below_set (HB.out) GB5.out : Below w.heap.size w w9)); clear HO145; clear HB; have HO145 := n0_; have HB := n1_; clear n0_ n1_; clear hg hw hp_))
       go_loopg [4] k (fun kq v4 w' => ∃ (x3_1 : List Int) (x4_1 : Int), v4 = .int .i64 x4_1 ∧ Aside0 (purflingref04_parents.l0 kq l0 x3_1 x4_1 = some r) ∧ Aside0 (kq ≤ k) ∧ Aside0 (Kd.R (Kd.int .i64) 3 w' w.heap.size (fun _ => True) (.slice (some ⟨go5, 0, none⟩) y143.length co5) x3_1) ∧ Aside0 (Below w.heap.size w w'))
       case atStart => exact ⟨(y146), (0), (by first | rfl | (simp; done) | (simp [*]; done)), H', ⟨Nat.le_refl _⟩, ⟨by (with_reducible repeat (first | apply Kd.R_alloc | apply Kd.R_drewN | apply Kd.R_drew)); exact HO145.out⟩, ⟨by repeat (first | (with_reducible first | exact HB.out | apply below_alloc | apply pw_below_drewN | apply below_drew1) | exact HB.out)⟩⟩
       case round =>
        clear H'
        try clear c2
        try clear c2b0
        try clear c2b1
        try clear p2
        try clear c3
        try clear c3b0
        try clear c3b1
        try clear c4
        try clear c4b0
        try clear c4b1
        try clear p5
        try clear q5
        try clear hx5
        try clear qi5
        try clear hf5
        try clear hx5_0
        try clear p5
        try clear q5
        obtain ⟨x3_1, x4_1, rfl, HA, HK1, HO_3, HB⟩ := hrel
        have hl3_1 := (Kd.R_reads' HO_3.out).1
        rw [hl3_1] at HO_3
        (try simp only [hl3_1])
        cases gk with
        | zero => exact absurd HA.out (by simp [purflingref04_parents.l0])
        | succ k1 =>
         have H := HA.out
         clear HA
         simp only [purflingref04_parents.l0] at H
         by_cases c10 : x4_1 < (l0.length : Int)
         · rw [if_pos c10] at H
           have c10b0 : decide (x4_1 < (l0.length : Int)) = true := decide_eq_true c10
           clear c10
           have H' := Aside0.mk H
           clear H
           go_wp2
           go_loopg [5] k1 (fun kq v5 w' => ∃ (x3_2 : List Int) (x5_2 : Int), v5 = .int .i64 x5_2 ∧ Aside0 (purflingref04_parents.l1 kq l0 x3_2 x4_1 x5_2 = some r) ∧ Aside0 (kq ≤ k1) ∧ Aside0 (Kd.R (Kd.int .i64) 3 w' w.heap.size (fun _ => True) (.slice (some ⟨go5, 0, none⟩) x3_1.length co5) x3_2) ∧ Aside0 (Below w.heap.size w w'))
           case atStart => exact ⟨(x3_1), (0), (by first | rfl | (simp; done) | (simp [*]; done)), H', ⟨Nat.le_refl _⟩, ⟨by (try simp only [hl3_1]); (with_reducible repeat (first | apply Kd.R_alloc | apply Kd.R_drewN | apply Kd.R_drew)); exact HO_3.out⟩, ⟨by repeat (first | (with_reducible first | exact HB.out | apply below_alloc | apply pw_below_drewN | apply below_drew1) | exact HB.out)⟩⟩
           case round =>
            clear H'
            try clear c1
            try clear c2
            try clear c2b0
            try clear c2b1
            try clear p2
            try clear c3
            try clear c3b0
            try clear c3b1
            try clear c4
            try clear c4b0
            try clear c4b1
            try clear p5
            try clear q5
            try clear hx5
            try clear qi5
            try clear hf5
            try clear c10
            try clear c10b0
            try clear hx5_0
            try clear p2
            try clear p5
            try clear q5
            obtain ⟨x3_2, x5_2, rfl, HA, HK2, HO_3, HB⟩ := hrel
            have hl3_2 := (Kd.R_reads' HO_3.out).1
            rw [hl3_2] at HO_3
            (try simp only [hl3_2])
            cases gk with
            | zero => exact absurd HA.out (by simp [purflingref04_parents.l1])
            | succ k2 =>
             have H := HA.out
             clear HA
             simp only [purflingref04_parents.l1] at H
             by_cases c11 : 0 ≤ x4_1
             · rw [if_pos c11] at H
               have c11b0 : decide (0 ≤ x4_1) = true := decide_eq_true c11
               clear c11
               by_cases c12 : x4_1 < (l0.length : Int)
               · rw [if_pos c12] at H
                 have c12b0 : decide (x4_1 < (l0.length : Int)) = true := decide_eq_true c12
                 clear c12
                 by_cases c13 : x5_2 < (((rd_T42 l0 x4_1).f1).length : Int)
                 · rw [if_pos c13] at H
                   have c13b0 : decide (x5_2 < (((rd_T42 l0 x4_1).f1).length : Int)) = true := decide_eq_true c13
                   clear c13
                   by_cases c14 : 0 ≤ x5_2
                   · rw [if_pos c14] at H
                     have c14b0 : decide (0 ≤ x5_2) = true := decide_eq_true c14
                     clear c14
                     by_cases c15 : 0 ≤ (rd ((rd_T42 l0 x4_1).f1) x5_2)
                     · rw [if_pos c15] at H
                       have c15b0 : decide (0 ≤ (rd ((rd_T42 l0 x4_1).f1) x5_2)) = true := decide_eq_true c15
                       clear c15
                       by_cases c16 : (rd ((rd_T42 l0 x4_1).f1) x5_2) < (x3_2.length : Int)
                       · rw [if_pos c16] at H
                         have c16b0 : decide ((rd ((rd_T42 l0 x4_1).f1) x5_2) < (x3_2.length : Int)) = true := decide_eq_true c16
                         clear c16
                         obtain ⟨y150, hy150⟩ : ∃ y_ : List Int, y_ = (x3_2.set ((rd ((rd_T42 l0 x4_1).f1) x5_2) : Int).toNat x4_1) := ⟨_, rfl⟩
                         replace H : (purflingref04_parents.l1 k2 l0 y150 x4_1 (wrap64 (x5_2 + 1))) = some r := by first | (rw [hy150]; with_reducible exact H) | (have H2_ := (Option.bind_some _ _).symm.trans H; rw [hy150]; with_reducible exact H2_) | (have H2_ := (Option.bind_some _ _).symm.trans H; with_reducible exact H2_) | with_reducible exact H | (rw [hy150]; exact H) | exact H
                         have Ny150 := Aside0.mk hy150
                         clear hy150
                         have H' := Aside0.mk H
                         clear H
                         have p147 : 0 ≤ (x4_1 : Int) := of_decide_eq_true (by first | (with_reducible assumption) | assumption)
                         have q147 : x4_1 < (l0.length : Int) := of_decide_eq_true (by first | (with_reducible assumption) | assumption)
                         obtain ⟨ad147, A147_1, c147_1, A147_31, c147_31, e147, hx147_0, hx147_1, hx147_2, hx147_3, hx147_4, hx147_5, hx147_6, hx147_7, hx147_8, hx147_9, hx147_10, hx147_11, hx147_12, hx147_13, hx147_14, hx147_15, hx147_16, hx147_17, hx147_18, hx147_19, hx147_20, hx147_21, hx147_22, hx147_23, hx147_24, hx147_25, hx147_26, hx147_27, hx147_28, hx147_29, hx147_30, hx147_31, hx147_32, hx147_33, hl147_1, hi147_1, hl147_31, hi147_31⟩ := at_T42 HR0.out x4_1 p147 q147
                         cases e147
                         replace hx147_0 := (HB.out.cell (World.block_lt_of_cell? w _ hx147_0)).trans hx147_0
                         replace hx147_1 := (HB.out.cell (World.block_lt_of_cell? w _ hx147_1)).trans hx147_1
                         replace hx147_2 := (HB.out.cell (World.block_lt_of_cell? w _ hx147_2)).trans hx147_2
                         replace hx147_3 := (HB.out.cell (World.block_lt_of_cell? w _ hx147_3)).trans hx147_3
                         replace hx147_4 := (HB.out.cell (World.block_lt_of_cell? w _ hx147_4)).trans hx147_4
                         replace hx147_5 := (HB.out.cell (World.block_lt_of_cell? w _ hx147_5)).trans hx147_5
                         replace hx147_6 := (HB.out.cell (World.block_lt_of_cell? w _ hx147_6)).trans hx147_6
                         replace hx147_7 := (HB.out.cell (World.block_lt_of_cell? w _ hx147_7)).trans hx147_7
                         replace hx147_8 := (HB.out.cell (World.block_lt_of_cell? w _ hx147_8)).trans hx147_8
                         replace hx147_9 := (HB.out.cell (World.block_lt_of_cell? w _ hx147_9)).trans hx147_9
                         replace hx147_10 := (HB.out.cell (World.block_lt_of_cell? w _ hx147_10)).trans hx147_10
                         replace hx147_11 := (HB.out.cell (World.block_lt_of_cell? w _ hx147_11)).trans hx147_11
                         replace hx147_12 := (HB.out.cell (World.block_lt_of_cell? w _ hx147_12)).trans hx147_12
                         replace hx147_13 := (HB.out.cell (World.block_lt_of_cell? w _ hx147_13)).trans hx147_13
                         replace hx147_14 := (HB.out.cell (World.block_lt_of_cell? w _ hx147_14)).trans hx147_14
                         replace hx147_15 := (HB.out.cell (World.block_lt_of_cell? w _ hx147_15)).trans hx147_15
                         replace hx147_16 := (HB.out.cell (World.block_lt_of_cell? w _ hx147_16)).trans hx147_16
                         replace hx147_17 := (HB.out.cell (World.block_lt_of_cell? w _ hx147_17)).trans hx147_17
                         replace hx147_18 := (HB.out.cell (World.block_lt_of_cell? w _ hx147_18)).trans hx147_18
                         replace hx147_19 := (HB.out.cell (World.block_lt_of_cell? w _ hx147_19)).trans hx147_19
                         replace hx147_20 := (HB.out.cell (World.block_lt_of_cell? w _ hx147_20)).trans hx147_20
                         replace hx147_21 := (HB.out.cell (World.block_lt_of_cell? w _ hx147_21)).trans hx147_21
                         replace hx147_22 := (HB.out.cell (World.block_lt_of_cell? w _ hx147_22)).trans hx147_22
                         replace hx147_23 := (HB.out.cell (World.block_lt_of_cell? w _ hx147_23)).trans hx147_23
                         replace hx147_24 := (HB.out.cell (World.block_lt_of_cell? w _ hx147_24)).trans hx147_24
                         replace hx147_25 := (HB.out.cell (World.block_lt_of_cell? w _ hx147_25)).trans hx147_25
                         replace hx147_26 := (HB.out.cell (World.block_lt_of_cell? w _ hx147_26)).trans hx147_26
                         replace hx147_27 := (HB.out.cell (World.block_lt_of_cell? w _ hx147_27)).trans hx147_27
                         replace hx147_28 := (HB.out.cell (World.block_lt_of_cell? w _ hx147_28)).trans hx147_28
                         replace hx147_29 := (HB.out.cell (World.block_lt_of_cell? w _ hx147_29)).trans hx147_29
                         replace hx147_30 := (HB.out.cell (World.block_lt_of_cell? w _ hx147_30)).trans hx147_30
                         replace hx147_31 := (HB.out.cell (World.block_lt_of_cell? w _ hx147_31)).trans hx147_31
                         replace hx147_32 := (HB.out.cell (World.block_lt_of_cell? w _ hx147_32)).trans hx147_32
                         replace hx147_33 := (HB.out.cell (World.block_lt_of_cell? w _ hx147_33)).trans hx147_33
                         have HR147_1 := Aside0.mk hi147_1
                         have HC147_1 := Aside0.mk hl147_1
                         clear hi147_1 hl147_1
                         have HR147_31 := Aside0.mk hi147_31
                         have HC147_31 := Aside0.mk hl147_31
                         clear hi147_31 hl147_31
                         replace p147 := eq_true p147
                         replace q147 := eq_true q147
                         have p148 : 0 ≤ (x4_1 : Int) := of_decide_eq_true (by first | (with_reducible assumption) | assumption)
                         have q148 : x4_1 < (l0.length : Int) := of_decide_eq_true (by first | (with_reducible assumption) | assumption)
                         obtain ⟨ad148, A148_1, c148_1, A148_31, c148_31, e148, hx148_0, hx148_1, hx148_2, hx148_3, hx148_4, hx148_5, hx148_6, hx148_7, hx148_8, hx148_9, hx148_10, hx148_11, hx148_12, hx148_13, hx148_14, hx148_15, hx148_16, hx148_17, hx148_18, hx148_19, hx148_20, hx148_21, hx148_22, hx148_23, hx148_24, hx148_25, hx148_26, hx148_27, hx148_28, hx148_29, hx148_30, hx148_31, hx148_32, hx148_33, hl148_1, hi148_1, hl148_31, hi148_31⟩ := at_T42 HR0.out x4_1 p148 q148
                         obtain rfl : ad147 = ad148 := (by injection e148)
                         replace hx148_0 := (HB.out.cell (World.block_lt_of_cell? w _ hx148_0)).trans hx148_0
                         replace hx148_1 := (HB.out.cell (World.block_lt_of_cell? w _ hx148_1)).trans hx148_1
                         replace hx148_2 := (HB.out.cell (World.block_lt_of_cell? w _ hx148_2)).trans hx148_2
                         replace hx148_3 := (HB.out.cell (World.block_lt_of_cell? w _ hx148_3)).trans hx148_3
                         replace hx148_4 := (HB.out.cell (World.block_lt_of_cell? w _ hx148_4)).trans hx148_4
                         replace hx148_5 := (HB.out.cell (World.block_lt_of_cell? w _ hx148_5)).trans hx148_5
                         replace hx148_6 := (HB.out.cell (World.block_lt_of_cell? w _ hx148_6)).trans hx148_6
                         replace hx148_7 := (HB.out.cell (World.block_lt_of_cell? w _ hx148_7)).trans hx148_7
                         replace hx148_8 := (HB.out.cell (World.block_lt_of_cell? w _ hx148_8)).trans hx148_8
                         replace hx148_9 := (HB.out.cell (World.block_lt_of_cell? w _ hx148_9)).trans hx148_9
                         replace hx148_10 := (HB.out.cell (World.block_lt_of_cell? w _ hx148_10)).trans hx148_10
                         replace hx148_11 := (HB.out.cell (World.block_lt_of_cell? w _ hx148_11)).trans hx148_11
                         replace hx148_12 := (HB.out.cell (World.block_lt_of_cell? w _ hx148_12)).trans hx148_12
                         replace hx148_13 := (HB.out.cell (World.block_lt_of_cell? w _ hx148_13)).trans hx148_13
                         replace hx148_14 := (HB.out.cell (World.block_lt_of_cell? w _ hx148_14)).trans hx148_14
                         replace hx148_15 := (HB.out.cell (World.block_lt_of_cell? w _ hx148_15)).trans hx148_15
                         replace hx148_16 := (HB.out.cell (World.block_lt_of_cell? w _ hx148_16)).trans hx148_16
                         replace hx148_17 := (HB.out.cell (World.block_lt_of_cell? w _ hx148_17)).trans hx148_17
                         replace hx148_18 := (HB.out.cell (World.block_lt_of_cell? w _ hx148_18)).trans hx148_18
                         replace hx148_19 := (HB.out.cell (World.block_lt_of_cell? w _ hx148_19)).trans hx148_19
                         replace hx148_20 := (HB.out.cell (World.block_lt_of_cell? w _ hx148_20)).trans hx148_20
                         replace hx148_21 := (HB.out.cell (World.block_lt_of_cell? w _ hx148_21)).trans hx148_21
                         replace hx148_22 := (HB.out.cell (World.block_lt_of_cell? w _ hx148_22)).trans hx148_22
                         replace hx148_23 := (HB.out.cell (World.block_lt_of_cell? w _ hx148_23)).trans hx148_23
                         replace hx148_24 := (HB.out.cell (World.block_lt_of_cell? w _ hx148_24)).trans hx148_24
                         replace hx148_25 := (HB.out.cell (World.block_lt_of_cell? w _ hx148_25)).trans hx148_25
                         replace hx148_26 := (HB.out.cell (World.block_lt_of_cell? w _ hx148_26)).trans hx148_26
                         replace hx148_27 := (HB.out.cell (World.block_lt_of_cell? w _ hx148_27)).trans hx148_27
                         replace hx148_28 := (HB.out.cell (World.block_lt_of_cell? w _ hx148_28)).trans hx148_28
                         replace hx148_29 := (HB.out.cell (World.block_lt_of_cell? w _ hx148_29)).trans hx148_29
                         replace hx148_30 := (HB.out.cell (World.block_lt_of_cell? w _ hx148_30)).trans hx148_30
                         replace hx148_31 := (HB.out.cell (World.block_lt_of_cell? w _ hx148_31)).trans hx148_31
                         replace hx148_32 := (HB.out.cell (World.block_lt_of_cell? w _ hx148_32)).trans hx148_32
                         replace hx148_33 := (HB.out.cell (World.block_lt_of_cell? w _ hx148_33)).trans hx148_33
                         have HR148_1 := Aside0.mk hi148_1
                         have HC148_1 := Aside0.mk hl148_1
                         clear hi148_1 hl148_1
                         have HR148_31 := Aside0.mk hi148_31
                         have HC148_31 := Aside0.mk hl148_31
                         clear hi148_31 hl148_31
                         replace p148 := eq_true p148
                         replace q148 := eq_true q148
                         have ea_ := Option.some.inj (hx147_1.symm.trans hx148_1)
                         injection ea_ with ea_ en_ ec_
                         subst ea_
                         subst ec_
                         clear en_
                         have ea_ := Option.some.inj (hx147_31.symm.trans hx148_31)
                         injection ea_ with ea_ en_ ec_
                         subst ea_
                         subst ec_
                         clear en_
                         have p149 : 0 ≤ (x5_2 : Int) := of_decide_eq_true (by first | (with_reducible assumption) | assumption)
                         have q149 : x5_2 < (((rd_T42 l0 x4_1).f1).length : Int) := of_decide_eq_true (by first | (with_reducible assumption) | assumption)
                         obtain ⟨ad149, e149, hx149_0⟩ := Kd.at_int HR148_1.out x5_2 p149 q149
                         cases e149
                         replace hx149_0 := (HB.out.cell (World.block_lt_of_cell? w _ hx149_0)).trans hx149_0
                         replace p149 := eq_true p149
                         replace q149 := eq_true q149
                         have p17 : 0 ≤ ((rd ((rd_T42 l0 x4_1).f1) x5_2) : Int) := of_decide_eq_true (by first | (with_reducible assumption) | assumption)
                         have q17 : ((rd ((rd_T42 l0 x4_1).f1) x5_2) : Int) < ((x3_2.length : Int) : Int) := of_decide_eq_true (by first | (with_reducible assumption) | assumption)
                         obtain ⟨hx17_0, hf17_0⟩ := Kd.R_celln 0 HO_3.out ((rd ((rd_T42 l0 x4_1).f1) x5_2) : Int) p17 q17
                         replace p17 := eq_true p17
                         replace q17 := eq_true q17
                         have HP18 := Kd.R_putg HO_3.out ((rd ((rd_T42 l0 x4_1).f1) x5_2) : Int) x4_1
                         go_wp2_with (first | ((with_reducible refine gate_store (t := 3) (p := 37) rfl ?_); refine store_event (t := 3) (p := 37) (v := ?vo_w19) (w1 := (wr.setCell ⟨go5, ((rd ((rd_T42 l0 x4_1).f1) x5_2) : Int).toNat, none⟩ (.int .i64 x4_1))) ?hg ?ho ?hn ?hr ?_; (case ho => rfl); (case hg => rfl); (case hn => rfl); (case hr => first | (go_simp; done) | (go_simp; rfl)); intro w19 hw; have hg : wr.grownBy w19 (some go5) := (by rw [hw]; exact HP18.2); have hp_ : Kd.R (Kd.int .i64) 3 w19 w.heap.size (fun _ => True) (.slice (some ⟨go5, 0, none⟩) x3_2.length co5) y150 := (by rw [hw, Ny150.out]; exact HP18.1); clear HP18; have n0_ := Aside0.mk (hp_); have n1_ := Aside0.mk ((by rw [hw]; exact below_set (HB.out) GB5.out : Below w.heap.size w w19)); clear HO_3; clear HB; have HO_3 := n0_; have HB := n1_; clear n0_ n1_; clear hg hw hp_))
                         (try simp only [← hl3_2])
                         go_roundg k2
                         case measure => have := HK1.out; have := HK2.out; omega
                         case rel => exact ⟨(y150), (wrap64 (x5_2 + 1)), (by first | rfl | (simp; done) | (simp [*]; done)), H', ⟨by have := HK1.out; have := HK2.out; omega⟩, ⟨by (try simp only [hl3_1]); (try simp only [hl3_2]); (with_reducible repeat (first | apply Kd.R_alloc | apply Kd.R_drewN | apply Kd.R_drew)); exact HO_3.out⟩, ⟨by repeat (first | (with_reducible first | exact HB.out | apply below_alloc | apply pw_below_drewN | apply below_drew1) | exact HB.out)⟩⟩
                       · rw [if_neg c16] at H
                         exact absurd H (by simp)
                     · rw [if_neg c15] at H
                       exact absurd H (by simp)
                   · rw [if_neg c14] at H
                     exact absurd H (by simp)
                 · rw [if_neg c13] at H
                   have c13b0 : decide (x5_2 < (((rd_T42 l0 x4_1).f1).length : Int)) = false := decide_eq_false c13
                   clear c13
                   have H' := Aside0.mk H
                   clear H
                   have p147 : 0 ≤ (x4_1 : Int) := of_decide_eq_true (by first | (with_reducible assumption) | assumption)
                   have q147 : x4_1 < (l0.length : Int) := of_decide_eq_true (by first | (with_reducible assumption) | assumption)
                   obtain ⟨ad147, A147_1, c147_1, A147_31, c147_31, e147, hx147_0, hx147_1, hx147_2, hx147_3, hx147_4, hx147_5, hx147_6, hx147_7, hx147_8, hx147_9, hx147_10, hx147_11, hx147_12, hx147_13, hx147_14, hx147_15, hx147_16, hx147_17, hx147_18, hx147_19, hx147_20, hx147_21, hx147_22, hx147_23, hx147_24, hx147_25, hx147_26, hx147_27, hx147_28, hx147_29, hx147_30, hx147_31, hx147_32, hx147_33, hl147_1, hi147_1, hl147_31, hi147_31⟩ := at_T42 HR0.out x4_1 p147 q147
                   cases e147
                   replace hx147_0 := (HB.out.cell (World.block_lt_of_cell? w _ hx147_0)).trans hx147_0
                   replace hx147_1 := (HB.out.cell (World.block_lt_of_cell? w _ hx147_1)).trans hx147_1
                   replace hx147_2 := (HB.out.cell (World.block_lt_of_cell? w _ hx147_2)).trans hx147_2
                   replace hx147_3 := (HB.out.cell (World.block_lt_of_cell? w _ hx147_3)).trans hx147_3
                   replace hx147_4 := (HB.out.cell (World.block_lt_of_cell? w _ hx147_4)).trans hx147_4
                   replace hx147_5 := (HB.out.cell (World.block_lt_of_cell? w _ hx147_5)).trans hx147_5
                   replace hx147_6 := (HB.out.cell (World.block_lt_of_cell? w _ hx147_6)).trans hx147_6
                   replace hx147_7 := (HB.out.cell (World.block_lt_of_cell? w _ hx147_7)).trans hx147_7
                   replace hx147_8 := (HB.out.cell (World.block_lt_of_cell? w _ hx147_8)).trans hx147_8
                   replace hx147_9 := (HB.out.cell (World.block_lt_of_cell? w _ hx147_9)).trans hx147_9
                   replace hx147_10 := (HB.out.cell (World.block_lt_of_cell? w _ hx147_10)).trans hx147_10
                   replace hx147_11 := (HB.out.cell (World.block_lt_of_cell? w _ hx147_11)).trans hx147_11
                   replace hx147_12 := (HB.out.cell (World.block_lt_of_cell? w _ hx147_12)).trans hx147_12
                   replace hx147_13 := (HB.out.cell (World.block_lt_of_cell? w _ hx147_13)).trans hx147_13
                   replace hx147_14 := (HB.out.cell (World.block_lt_of_cell? w _ hx147_14)).trans hx147_14
                   replace hx147_15 := (HB.out.cell (World.block_lt_of_cell? w _ hx147_15)).trans hx147_15
                   replace hx147_16 := (HB.out.cell (World.block_lt_of_cell? w _ hx147_16)).trans hx147_16
                   replace hx147_17 := (HB.out.cell (World.block_lt_of_cell? w _ hx147_17)).trans hx147_17
                   replace hx147_18 := (HB.out.cell (World.block_lt_of_cell? w _ hx147_18)).trans hx147_18
                   replace hx147_19 := (HB.out.cell (World.block_lt_of_cell? w _ hx147_19)).trans hx147_19
                   replace hx147_20 := (HB.out.cell (World.block_lt_of_cell? w _ hx147_20)).trans hx147_20
                   replace hx147_21 := (HB.out.cell (World.block_lt_of_cell? w _ hx147_21)).trans hx147_21
                   replace hx147_22 := (HB.out.cell (World.block_lt_of_cell? w _ hx147_22)).trans hx147_22
                   replace hx147_23 := (HB.out.cell (World.block_lt_of_cell? w _ hx147_23)).trans hx147_23
                   replace hx147_24 := (HB.out.cell (World.block_lt_of_cell? w _ hx147_24)).trans hx147_24
                   replace hx147_25 := (HB.out.cell (World.block_lt_of_cell? w _ hx147_25)).trans hx147_25
                   replace hx147_26 := (HB.out.cell (World.block_lt_of_cell? w _ hx147_26)).trans hx147_26
                   replace hx147_27 := (HB.out.cell (World.block_lt_of_cell? w _ hx147_27)).trans hx147_27
                   replace hx147_28 := (HB.out.cell (World.block_lt_of_cell? w _ hx147_28)).trans hx147_28
                   replace hx147_29 := (HB.out.cell (World.block_lt_of_cell? w _ hx147_29)).trans hx147_29
                   replace hx147_30 := (HB.out.cell (World.block_lt_of_cell? w _ hx147_30)).trans hx147_30
                   replace hx147_31 := (HB.out.cell (World.block_lt_of_cell? w _ hx147_31)).trans hx147_31
                   replace hx147_32 := (HB.out.cell (World.block_lt_of_cell? w _ hx147_32)).trans hx147_32
                   replace hx147_33 := (HB.out.cell (World.block_lt_of_cell? w _ hx147_33)).trans hx147_33
                   have HR147_1 := Aside0.mk hi147_1
                   have HC147_1 := Aside0.mk hl147_1
                   clear hi147_1 hl147_1
                   have HR147_31 := Aside0.mk hi147_31
                   have HC147_31 := Aside0.mk hl147_31
                   clear hi147_31 hl147_31
                   replace p147 := eq_true p147
                   replace q147 := eq_true q147
                   go_wp2
                   (try simp only [← hl3_1, ← hl3_2])
                   go_roundg k2
                   case measure => have := HK1.out; have := HK2.out; omega
                   case rel => exact ⟨(x3_2), (wrap64 (x4_1 + 1)), (by first | rfl | (simp; done) | (simp [*]; done)), H', ⟨by have := HK1.out; have := HK2.out; omega⟩, ⟨by (try simp only [hl3_1]); (try simp only [hl3_2]); (with_reducible repeat (first | apply Kd.R_alloc | apply Kd.R_drewN | apply Kd.R_drew)); exact HO_3.out⟩, ⟨by repeat (first | (with_reducible first | exact HB.out | apply below_alloc | apply pw_below_drewN | apply below_drew1) | exact HB.out)⟩⟩
               · rw [if_neg c12] at H
                 exact absurd H (by simp)
             · rw [if_neg c11] at H
               exact absurd H (by simp)
         · rw [if_neg c10] at H
           have c10b0 : decide (x4_1 < (l0.length : Int)) = false := decide_eq_false c10
           clear c10
           obtain rfl := Option.some.inj H
           go_wp2
           go_ret
           exact ⟨_, by first | rfl | (simp [errW_none, errW_some] <;> rfl) | (simp [*, errW_none, errW_some] <;> rfl), by (with_reducible repeat (first | apply Kd.R_alloc | apply Kd.R_drewN | apply Kd.R_drew)); exact HO_3.out, by repeat (first | (with_reducible first | exact HB.out | apply below_alloc | apply pw_below_drewN | apply below_drew1) | exact HB.out)⟩
     · rw [if_neg c4] at H
       exact absurd H (by simp)
   · rw [if_neg c3] at H
     exact absurd H (by simp)
 · rw [if_neg c2] at H
   exact absurd H (by simp)

end Go.Proofs.Ytmmgdokaapphgaa.K
