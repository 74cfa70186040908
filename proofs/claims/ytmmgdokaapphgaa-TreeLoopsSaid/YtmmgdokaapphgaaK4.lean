-- PRINTED by print.py (a twelfth state) out of the translation. Not trusted: Lean checks it.
import Derived.Test.YtmmgdokaapphgaaK0
namespace Go.Proofs.Ytmmgdokaapphgaa.K
open Go.RowKit Go.Proofs.YtmmgdokaapphgaaW.PrintWords Go.Proofs.YtmmgdokaapphgaaW.PrintLast Go.Proofs.YtmmgdokaapphgaaW.PrintMore
attribute [local go_sem] max2_int min2_int max_two min_two max_three min_three max_four min_four   -- for this text's walks alone
set_option linter.unusedVariables false
set_option linter.unusedSimpArgs false

/-! ### purflingref04_reached: function 27 -/
mutual
def purflingref04_reached.l0 : Nat → List (S42) → Int → List Bool → List Int → Int → Option (Bool)
 | 0, _, _, _, _, _ => none
 | k + 1, x0, x1, x5, x6, x7 => if x7 < (x6.length : Int) then (purflingref04_reached.l1 k x0 x1 x5 x6 x7 0) else (if 0 ≤ x1 then (if x1 < (x5.length : Int) then (some (rdOf false x5 x1)) else (none)) else (none))
def purflingref04_reached.l1 : Nat → List (S42) → Int → List Bool → List Int → Int → Int → Option (Bool)
 | 0, _, _, _, _, _, _ => none
 | k + 1, x0, x1, x5, x6, x7, x8 => if 0 ≤ x7 then (if x7 < (x6.length : Int) then (if 0 ≤ (rd x6 x7) then (if (rd x6 x7) < (x0.length : Int) then (if x8 < (((rd_T42 x0 (rd x6 x7)).f1).length : Int) then (if 0 ≤ x8 then (if 0 ≤ (rd ((rd_T42 x0 (rd x6 x7)).f1) x8) then (if (rd ((rd_T42 x0 (rd x6 x7)).f1) x8) < (x5.length : Int) then (if (rdOf false x5 (rd ((rd_T42 x0 (rd x6 x7)).f1) x8) = true) then (purflingref04_reached.l1 k x0 x1 x5 x6 x7 (wrap64 (x8 + 1))) else (if x6.length < 17592186044416 then (purflingref04_reached.l1 k x0 x1 (x5.set ((rd ((rd_T42 x0 (rd x6 x7)).f1) x8) : Int).toNat true) (x6 ++ [rd ((rd_T42 x0 (rd x6 x7)).f1) x8]) x7 (wrap64 (x8 + 1))) else (none))) else (none)) else (none)) else (none)) else (purflingref04_reached.l0 k x0 x1 x5 x6 (wrap64 (x7 + 1)))) else (none)) else (none)) else (none)) else (none)
end
def purflingref04_reached.f (k : Nat) (l0 : List (S42)) (a1 : Int) : Option (Bool) := if 0 ≤ (l0.length : Int) then (if ((l0.length : Int) : Int).toNat ≤ 281474976710656 then ((some (List.replicate ((l0.length : Int) : Int).toNat false : List Bool)).bind fun y125 => (if 0 < (y125.length : Int) then (purflingref04_reached.l0 k l0 a1 (y125.set (0 : Int).toNat true) (([0] : List Int)) 0) else (none))) else (none)) else (none)
theorem purflingref04_reached.mono_l : ∀ k, (∀ y0 y1 y2 y3 y4, LeO (purflingref04_reached.l0 k y0 y1 y2 y3 y4) (purflingref04_reached.l0 (k + 1) y0 y1 y2 y3 y4)) ∧ (∀ y0 y1 y2 y3 y4 y5, LeO (purflingref04_reached.l1 k y0 y1 y2 y3 y4 y5) (purflingref04_reached.l1 (k + 1) y0 y1 y2 y3 y4 y5))
 | 0 => ⟨fun _ _ _ _ _ r h => by simp [purflingref04_reached.l0] at h, fun _ _ _ _ _ _ r h => by simp [purflingref04_reached.l1] at h⟩
 | k + 1 => by
  obtain ⟨ih0, ih1⟩ := purflingref04_reached.mono_l k
  refine ⟨?_, ?_⟩
  · intro y0 y1 y2 y3 y4
    unfold purflingref04_reached.l0
    repeat' first
    | (with_reducible exact ih0 _ _ _ _ _)
    | (with_reducible exact ih1 _ _ _ _ _ _)
    | (with_reducible exact LeO.refl _)
    | (with_reducible exact LeO.none _)
    | (with_reducible refine LeO.ite ?_ ?_)
    | (with_reducible refine LeO.bind ?_ (fun _ => ?_))
    | exact ih0 _ _ _ _ _
    | exact ih1 _ _ _ _ _ _
    | exact LeO.none _
    | refine LeO.ite ?_ ?_
    | refine LeO.bind ?_ (fun _ => ?_)
  · intro y0 y1 y2 y3 y4 y5
    unfold purflingref04_reached.l1
    repeat' first
    | (with_reducible exact ih0 _ _ _ _ _)
    | (with_reducible exact ih1 _ _ _ _ _ _)
    | (with_reducible exact LeO.refl _)
    | (with_reducible exact LeO.none _)
    | (with_reducible refine LeO.ite ?_ ?_)
    | (with_reducible refine LeO.bind ?_ (fun _ => ?_))
    | exact ih0 _ _ _ _ _
    | exact ih1 _ _ _ _ _ _
    | exact LeO.none _
    | refine LeO.ite ?_ ?_
    | refine LeO.bind ?_ (fun _ => ?_)
theorem purflingref04_reached.mono : ∀ a0 a1 k, LeO (purflingref04_reached.f k a0 a1) (purflingref04_reached.f (k + 1) a0 a1) := by
 intro a0 a1 k
 obtain ⟨ih0, ih1⟩ := purflingref04_reached.mono_l k
 unfold purflingref04_reached.f
 repeat' first
  | (with_reducible exact ih0 _ _ _ _ _)
  | (with_reducible exact ih1 _ _ _ _ _ _)
  | (with_reducible exact LeO.refl _)
  | (with_reducible exact LeO.none _)
  | (with_reducible refine LeO.ite ?_ ?_)
  | (with_reducible refine LeO.bind ?_ (fun _ => ?_))
  | exact ih0 _ _ _ _ _
  | exact ih1 _ _ _ _ _ _
  | exact LeO.none _
  | refine LeO.ite ?_ ?_
  | refine LeO.bind ?_ (fun _ => ?_)
set_option maxHeartbeats 8000000 in
set_option maxRecDepth 100000 in
theorem purflingref04_reached.calls (k : Nat) (A0 : Option Addr) (c0 : Nat) (l0 : List (S42)) (a1 : Int) (r : Bool) (w : World) (hr0 : Kd.C k42 w A0 l0.length l0) (hc0 : l0.length ≤ c0) (h : purflingref04_reached.f k l0 a1 = some r) :
 Calls Try.prog 27 #[.slice A0 l0.length c0, .int .i64 a1] w fun e w' => e = .returned (.bool r) ∧ Below w.heap.size w w' := by
 have HR0 := Aside0.mk hr0
 have HC0 := Aside0.mk hc0
 clear hr0 hc0
 have HB := Aside0.mk (Below.refl w.heap.size w)
 have H : (if 0 ≤ (l0.length : Int) then (if ((l0.length : Int) : Int).toNat ≤ 281474976710656 then ((some (List.replicate ((l0.length : Int) : Int).toNat false : List Bool)).bind fun y125 => (if 0 < (y125.length : Int) then (purflingref04_reached.l0 k l0 a1 (y125.set (0 : Int).toNat true) (([0] : List Int)) 0) else (none))) else (none)) else (none)) = some r := h
 clear h
 by_cases c3 : 0 ≤ (l0.length : Int)
 · rw [if_pos c3] at H
   have c3b0 := eq_true c3
   have c3b1 : decide (0 ≤ (l0.length : Int)) = true := decide_eq_true c3
   clear c3
   by_cases c4 : ((l0.length : Int) : Int).toNat ≤ 281474976710656
   · rw [if_pos c4] at H
     have c4b0 := eq_true c4
     have c4b1 : decide (((l0.length : Int) : Int).toNat ≤ 281474976710656) = true := decide_eq_true c4
     clear c4
     obtain ⟨y125, hy125⟩ : ∃ y_ : List Bool, y_ = (List.replicate ((l0.length : Int) : Int).toNat false) := ⟨_, rfl⟩
     replace H : (if 0 < (y125.length : Int) then (purflingref04_reached.l0 k l0 a1 (y125.set (0 : Int).toNat true) (([0] : List Int)) 0) else (none)) = some r := by first | (rw [hy125]; with_reducible exact H) | (have H2_ := (Option.bind_some _ _).symm.trans H; rw [hy125]; with_reducible exact H2_) | (have H2_ := (Option.bind_some _ _).symm.trans H; with_reducible exact H2_) | with_reducible exact H | (rw [hy125]; exact H) | exact H
     have Ny125 := Aside0.mk hy125
     clear hy125
     obtain ⟨y128, hy128⟩ : ∃ y_ : List Int, y_ = (([0] : List Int)) := ⟨_, rfl⟩
     replace H : (if 0 < (y125.length : Int) then (purflingref04_reached.l0 k l0 a1 (y125.set (0 : Int).toNat true) y128 0) else (none)) = some r := by first | (rw [hy128]; with_reducible exact H) | (have H2_ := (Option.bind_some _ _).symm.trans H; rw [hy128]; with_reducible exact H2_) | (have H2_ := (Option.bind_some _ _).symm.trans H; with_reducible exact H2_) | with_reducible exact H | (rw [hy128]; exact H) | exact H
     have Ny128 := Aside0.mk hy128
     clear hy128
     by_cases c5 : 0 < (y125.length : Int)
     · rw [if_pos c5] at H
       have c5b0 : decide (0 < (y125.length : Int)) = true := decide_eq_true c5
       have c5b1 : decide (0 < y125.length) = true := decide_eq_true (by omega)
       clear c5
       obtain ⟨y131, hy131⟩ : ∃ y_ : List Bool, y_ = (y125.set (0 : Int).toNat true) := ⟨_, rfl⟩
       replace H : (purflingref04_reached.l0 k l0 a1 y131 y128 0) = some r := by first | (rw [hy131]; with_reducible exact H) | (have H2_ := (Option.bind_some _ _).symm.trans H; rw [hy131]; with_reducible exact H2_) | (have H2_ := (Option.bind_some _ _).symm.trans H; with_reducible exact H2_) | with_reducible exact H | (rw [hy131]; exact H) | exact H
       have Ny131 := Aside0.mk hy131
       clear hy131
       have H' := Aside0.mk H
       clear H
       go_enter Try.func27, Try.ntmps27
       go_wp2_with (first | ((with_reducible refine gate_dst (N := 12) rfl ?_); refine Kd.R_make Kd.bool _ 4 rfl (N := 12) rfl 56 _ _ rfl (l0.length : Int) rfl rfl Try.underlying56 (.bool false) 1 info4 rfl (by decide) (by omega) false (ok := fun _ => True) (okp := fun _ => True) rfl (fun _ hk => hk) trivial (of_decide_eq_true (by first | (with_reducible assumption) | assumption)) (Nat.le_trans (Nat.mul_le_mul_right _ (of_decide_eq_true (by first | (with_reducible assumption) | assumption) : (l0.length : Int).toNat ≤ 281474976710656)) (by omega)) (Below.refl _ _) (Nat.le_refl _) ?_; intro v126 w7 ho8 hb hg_ hnew_; clear hg_ hnew_; (first | rw [← Ny125.out] at ho8 | (simp only [Int.reduceToNat] at ho8; rw [← Ny125.out] at ho8)); have n0_ := Aside0.mk (Kd.R_lower ho8 (below_size (by repeat (first | (with_reducible first | exact HB.out | apply below_alloc | apply pw_below_drewN | apply below_drew1) | exact HB.out)))); have n1_ := Aside0.mk (below_step (by repeat (first | (with_reducible first | exact HB.out | apply below_alloc | apply pw_below_drewN | apply below_drew1) | exact HB.out)) hb); clear HB; have HO127 := n0_; have HB := n1_; clear n0_ n1_; clear hb ho8) | ((with_reducible refine gate_dst (N := 13) rfl ?_); refine Kd.R_lit (Kd.int .i64) _ 3 ?hg (N := 13) ?hd (xs := ([0] : List Int)) (inner := [.int .i64 0]) (ok := fun _ => True) (okp := fun _ => True) ?hr ?hp (fun _ hk => hk) trivial (Below.refl _ _) (Nat.le_refl _) (by simp) ?_; (case hd => rfl); (case hg => rfl); (case hr => first | (go_simp; done) | (go_simp; rfl)); (case hp => exact (Reps.one (show Kd.M (Kd.int .i64) _ _ _ 0 [.int .i64 0] from rfl) (Reps.none _ _))); intro v129 w9 ho10 hb hg_ hnew_; clear hg_ hnew_; (first | rw [← Ny128.out] at ho10 | (simp only [Int.reduceToNat] at ho10; rw [← Ny128.out] at ho10)); have n0_ := Aside0.mk (Kd.R_below (by (with_reducible repeat (first | apply Kd.R_alloc | apply Kd.R_drewN | apply Kd.R_drew)); exact HO127.out) hb); have n1_ := Aside0.mk (Kd.R_lower ho10 (below_size (by repeat (first | (with_reducible first | exact HB.out | apply below_alloc | apply pw_below_drewN | apply below_drew1) | exact HB.out)))); have n2_ := Aside0.mk (below_step (by repeat (first | (with_reducible first | exact HB.out | apply below_alloc | apply pw_below_drewN | apply below_drew1) | exact HB.out)) hb); clear HO127; clear HB; have HO127 := n0_; have HO130 := n1_; have HB := n2_; clear n0_ n1_ n2_; clear hb ho10; have p6 : 0 ≤ (0 : Int) := (by omega); have q6 : (0 : Int) < ((y125.length : Int) : Int) := of_decide_eq_true (by first | (with_reducible assumption) | assumption); have qi6 : (0 < y125.length) = True := eq_true (by omega); obtain ⟨go6, co6, eo6, gb6, gl6, cl6, HG6⟩ := Kd.R_form HO127.out (by omega); (first | cases eo6 | (injection eo6 with ea_ en_ ec_; (first | subst ea_ | (injection ea_ with ea_; subst ea_)); subst ec_; clear en_)); have GB6 := Aside0.mk gb6; have GG6 := Aside0.mk HG6; clear gb6 gl6 HG6; obtain ⟨hx6_0, hf6_0⟩ := Kd.R_celln false HO127.out (0 : Int) p6 q6; (try rw [show ((0 : Int)).toNat = 0 from rfl] at hx6_0); (try simp only [Nat.reduceMul, Nat.zero_mul, Nat.zero_add, Nat.reduceAdd] at hx6_0); (try rw [show ((0 : Int)).toNat = 0 from rfl] at hf6_0); (try simp only [Nat.reduceMul, Nat.zero_mul, Nat.zero_add, Nat.reduceAdd] at hf6_0); replace p6 := eq_true p6; replace q6 := eq_true q6; obtain ⟨hy11_, hz11_⟩ := Kd.R_celln false HO127.out (0 : Int) (by omega) (of_decide_eq_true (by first | (with_reducible assumption) | assumption)); (try simp only [Int.reduceToNat, Int.toNat_zero, Int.toNat_ofNat, Nat.reduceMul, Nat.zero_mul, Nat.zero_add] at hy11_ hz11_); (try rw [show ((0 : Int)).toNat = 0 from rfl] at hy11_); (try rw [show ((0 : Int)).toNat = 0 from rfl] at hz11_); have HP11 := Kd.R_putg HO127.out (0 : Int) true) | ((with_reducible refine gate_store (t := 4) (p := 15) rfl ?_); refine store_event (t := 4) (p := 15) (v := ?vo_w12) (w1 := (w9.setCell ⟨go6, (0 : Int).toNat, none⟩ (.bool true))) ?hg ?ho ?hn ?hr ?_; (case ho => rfl); (case hg => rfl); (case hn => rfl); (case hr => first | (go_simp; done) | (go_simp; rfl)); intro w12 hw; have hg : w9.grownBy w12 (some go6) := (by rw [hw]; exact HP11.2); have hp_ : Kd.R Kd.bool 4 w12 w.heap.size (fun _ => True) (.slice (some ⟨go6, 0, none⟩) y125.length co6) y131 := (by rw [hw, Ny131.out]; exact HP11.1); clear HP11; have n0_ := Aside0.mk (hp_); have n1_ := Aside0.mk (Kd.R_over' (v := (.slice (some ⟨go6, 0, none⟩) y125.length co6)) (by (with_reducible repeat (first | apply Kd.R_alloc | apply Kd.R_drewN | apply Kd.R_drew)); exact HO130.out) (Kd.R_typed HO127.out) (by decide) hg); have n2_ := Aside0.mk ((by rw [hw]; exact below_set (HB.out) GB6.out : Below w.heap.size w w12)); clear HO127; clear HO130; clear HB; have HO127 := n0_; have HO130 := n1_; have HB := n2_; clear n0_ n1_ n2_; clear hg hw hp_))
       go_loopg [6, 7] k (fun kq v6 v7 w' => ∃ (x5_1 : List Bool) (x6_1 : List Int) (x7_1 : Int), v7 = .int .i64 x7_1 ∧ Aside0 (purflingref04_reached.l0 kq l0 a1 x5_1 x6_1 x7_1 = some r) ∧ Aside0 (kq ≤ k) ∧ Aside0 (Kd.R Kd.bool 4 w' w.heap.size (fun _ => True) (.slice (some ⟨go6, 0, none⟩) y125.length co6) x5_1) ∧ Aside0 (Kd.R (Kd.int .i64) 3 w' w.heap.size (fun _ => True) v6 x6_1) ∧ Aside0 (Below w.heap.size w w'))
       case atStart => exact ⟨(y131), (y128), (0), (by first | rfl | (simp; done) | (simp [*]; done)), H', ⟨Nat.le_refl _⟩, ⟨by (with_reducible repeat (first | apply Kd.R_alloc | apply Kd.R_drewN | apply Kd.R_drew)); exact HO127.out⟩, ⟨by (with_reducible repeat (first | apply Kd.R_alloc | apply Kd.R_drewN | apply Kd.R_drew)); exact HO130.out⟩, ⟨by repeat (first | (with_reducible first | exact HB.out | apply below_alloc | apply pw_below_drewN | apply below_drew1) | exact HB.out)⟩⟩
       case round =>
        clear H'
        try clear c2
        try clear p2
        try clear c3
        try clear c3b0
        try clear c3b1
        try clear c4
        try clear c4b0
        try clear c4b1
        try clear c5
        try clear c5b0
        try clear c5b1
        try clear p6
        try clear q6
        try clear hx6
        try clear qi6
        try clear hf6
        try clear hx6_0
        try clear p6
        try clear q6
        obtain ⟨x5_1, x6_1, x7_1, rfl, HA, HK1, HO_5, HO_6, HB⟩ := hrel
        have hl5_1 := (Kd.R_reads' HO_5.out).1
        rw [hl5_1] at HO_5
        (try simp only [hl5_1])
        (try simp only [hl5_1] at HO_6)
        cases gk with
        | zero => exact absurd HA.out (by simp [purflingref04_reached.l0])
        | succ k1 =>
         have H := HA.out
         clear HA
         simp only [purflingref04_reached.l0] at H
         by_cases c13 : x7_1 < (x6_1.length : Int)
         · rw [if_pos c13] at H
           have c13b0 : decide (x7_1 < (x6_1.length : Int)) = true := decide_eq_true c13
           clear c13
           have H' := Aside0.mk H
           clear H
           obtain ⟨Ao14, co14, eo14⟩ := Kd.R_slice HO_6.out
           subst eo14
           go_wp2
           go_loopg [6, 8] k1 (fun kq v6 v8 w' => ∃ (x5_2 : List Bool) (x6_2 : List Int) (x8_2 : Int), v8 = .int .i64 x8_2 ∧ Aside0 (purflingref04_reached.l1 kq l0 a1 x5_2 x6_2 x7_1 x8_2 = some r) ∧ Aside0 (kq ≤ k1) ∧ Aside0 (Kd.R Kd.bool 4 w' w.heap.size (fun _ => True) (.slice (some ⟨go6, 0, none⟩) x5_1.length co6) x5_2) ∧ Aside0 (Kd.R (Kd.int .i64) 3 w' w.heap.size (fun _ => True) v6 x6_2) ∧ Aside0 (Below w.heap.size w w'))
           case atStart => exact ⟨(x5_1), (x6_1), (0), (by first | rfl | (simp; done) | (simp [*]; done)), H', ⟨Nat.le_refl _⟩, ⟨by (try simp only [hl5_1]); (with_reducible repeat (first | apply Kd.R_alloc | apply Kd.R_drewN | apply Kd.R_drew)); exact HO_5.out⟩, ⟨by (try simp only [hl5_1]); (with_reducible repeat (first | apply Kd.R_alloc | apply Kd.R_drewN | apply Kd.R_drew)); exact HO_6.out⟩, ⟨by repeat (first | (with_reducible first | exact HB.out | apply below_alloc | apply pw_below_drewN | apply below_drew1) | exact HB.out)⟩⟩
           case round =>
            clear H'
            try clear c1
            try clear c2
            try clear p2
            try clear c3
            try clear c3b0
            try clear c3b1
            try clear c4
            try clear c4b0
            try clear c4b1
            try clear c5
            try clear c5b0
            try clear c5b1
            try clear p6
            try clear q6
            try clear hx6
            try clear qi6
            try clear hf6
            try clear c13
            try clear c13b0
            try clear hx6_0
            try clear p2
            try clear p6
            try clear q6
            obtain ⟨x5_2, x6_2, x8_2, rfl, HA, HK2, HO_5, HO_6, HB⟩ := hrel
            have hl5_2 := (Kd.R_reads' HO_5.out).1
            rw [hl5_2] at HO_5
            (try simp only [hl5_2])
            (try simp only [hl5_2] at HO_6)
            cases gk with
            | zero => exact absurd HA.out (by simp [purflingref04_reached.l1])
            | succ k2 =>
             have H := HA.out
             clear HA
             simp only [purflingref04_reached.l1] at H
             by_cases c15 : 0 ≤ x7_1
             · rw [if_pos c15] at H
               have c15b0 : decide (0 ≤ x7_1) = true := decide_eq_true c15
               clear c15
               by_cases c16 : x7_1 < (x6_2.length : Int)
               · rw [if_pos c16] at H
                 have c16b0 : decide (x7_1 < (x6_2.length : Int)) = true := decide_eq_true c16
                 clear c16
                 by_cases c17 : 0 ≤ (rd x6_2 x7_1)
                 · rw [if_pos c17] at H
                   have c17b0 : decide (0 ≤ (rd x6_2 x7_1)) = true := decide_eq_true c17
                   clear c17
                   by_cases c18 : (rd x6_2 x7_1) < (l0.length : Int)
                   · rw [if_pos c18] at H
                     have c18b0 : decide ((rd x6_2 x7_1) < (l0.length : Int)) = true := decide_eq_true c18
                     clear c18
                     by_cases c19 : x8_2 < (((rd_T42 l0 (rd x6_2 x7_1)).f1).length : Int)
                     · rw [if_pos c19] at H
                       have c19b0 : decide (x8_2 < (((rd_T42 l0 (rd x6_2 x7_1)).f1).length : Int)) = true := decide_eq_true c19
                       clear c19
                       by_cases c20 : 0 ≤ x8_2
                       · rw [if_pos c20] at H
                         have c20b0 : decide (0 ≤ x8_2) = true := decide_eq_true c20
                         clear c20
                         by_cases c21 : 0 ≤ (rd ((rd_T42 l0 (rd x6_2 x7_1)).f1) x8_2)
                         · rw [if_pos c21] at H
                           have c21b0 : decide (0 ≤ (rd ((rd_T42 l0 (rd x6_2 x7_1)).f1) x8_2)) = true := decide_eq_true c21
                           clear c21
                           by_cases c22 : (rd ((rd_T42 l0 (rd x6_2 x7_1)).f1) x8_2) < (x5_2.length : Int)
                           · rw [if_pos c22] at H
                             have c22b0 : decide ((rd ((rd_T42 l0 (rd x6_2 x7_1)).f1) x8_2) < (x5_2.length : Int)) = true := decide_eq_true c22
                             clear c22
                             obtain ⟨bq23, hbq23⟩ : ∃ b_ : Bool, b_ = (rdOf false x5_2 (rd ((rd_T42 l0 (rd x6_2 x7_1)).f1) x8_2)) := ⟨_, rfl⟩
                             replace H : (if (bq23 = true) then (purflingref04_reached.l1 k2 l0 a1 x5_2 x6_2 x7_1 (wrap64 (x8_2 + 1))) else (if x6_2.length < 17592186044416 then (purflingref04_reached.l1 k2 l0 a1 (x5_2.set ((rd ((rd_T42 l0 (rd x6_2 x7_1)).f1) x8_2) : Int).toNat true) (x6_2 ++ [rd ((rd_T42 l0 (rd x6_2 x7_1)).f1) x8_2]) x7_1 (wrap64 (x8_2 + 1))) else (none))) = some r := by rw [← hbq23] at H; exact H
                             have Nbq23 := Aside0.mk hbq23
                             clear hbq23
                             by_cases c24 : (bq23 = true)
                             · subst c24
                               have H1 : (purflingref04_reached.l1 k2 l0 a1 x5_2 x6_2 x7_1 (wrap64 (x8_2 + 1))) = some r := by rw [if_pos rfl] at H; exact H
                               clear H
                               have H := H1
                               clear H1
                               have H' := Aside0.mk H
                               clear H
                               obtain ⟨Ao25, co25, eo25⟩ := Kd.R_slice HO_6.out
                               subst eo25
                               have p133 : 0 ≤ (x7_1 : Int) := of_decide_eq_true (by first | (with_reducible assumption) | assumption)
                               have q133 : x7_1 < (x6_2.length : Int) := of_decide_eq_true (by first | (with_reducible assumption) | assumption)
                               obtain ⟨ad133, e133, hx133_0⟩ := Kd.at_int (Kd.R_reads' HO_6.out).2.2 x7_1 p133 q133
                               cases e133
                               replace p133 := eq_true p133
                               replace q133 := eq_true q133
                               have p134 : 0 ≤ ((rd x6_2 x7_1) : Int) := of_decide_eq_true (by first | (with_reducible assumption) | assumption)
                               have q134 : (rd x6_2 x7_1) < (l0.length : Int) := of_decide_eq_true (by first | (with_reducible assumption) | assumption)
                               obtain ⟨ad134, A134_1, c134_1, A134_31, c134_31, e134, hx134_0, hx134_1, hx134_2, hx134_3, hx134_4, hx134_5, hx134_6, hx134_7, hx134_8, hx134_9, hx134_10, hx134_11, hx134_12, hx134_13, hx134_14, hx134_15, hx134_16, hx134_17, hx134_18, hx134_19, hx134_20, hx134_21, hx134_22, hx134_23, hx134_24, hx134_25, hx134_26, hx134_27, hx134_28, hx134_29, hx134_30, hx134_31, hx134_32, hx134_33, hl134_1, hi134_1, hl134_31, hi134_31⟩ := at_T42 HR0.out (rd x6_2 x7_1) p134 q134
                               (try rw [← Nbq23.out] at hx134_25)
                               (try rw [← Nbq23.out] at hx134_26)
                               (try rw [← Nbq23.out] at hx134_29)
                               (try rw [← Nbq23.out] at hx134_30)
                               cases e134
                               replace hx134_0 := (HB.out.cell (World.block_lt_of_cell? w _ hx134_0)).trans hx134_0
                               replace hx134_1 := (HB.out.cell (World.block_lt_of_cell? w _ hx134_1)).trans hx134_1
                               replace hx134_2 := (HB.out.cell (World.block_lt_of_cell? w _ hx134_2)).trans hx134_2
                               replace hx134_3 := (HB.out.cell (World.block_lt_of_cell? w _ hx134_3)).trans hx134_3
                               replace hx134_4 := (HB.out.cell (World.block_lt_of_cell? w _ hx134_4)).trans hx134_4
                               replace hx134_5 := (HB.out.cell (World.block_lt_of_cell? w _ hx134_5)).trans hx134_5
                               replace hx134_6 := (HB.out.cell (World.block_lt_of_cell? w _ hx134_6)).trans hx134_6
                               replace hx134_7 := (HB.out.cell (World.block_lt_of_cell? w _ hx134_7)).trans hx134_7
                               replace hx134_8 := (HB.out.cell (World.block_lt_of_cell? w _ hx134_8)).trans hx134_8
                               replace hx134_9 := (HB.out.cell (World.block_lt_of_cell? w _ hx134_9)).trans hx134_9
                               replace hx134_10 := (HB.out.cell (World.block_lt_of_cell? w _ hx134_10)).trans hx134_10
                               replace hx134_11 := (HB.out.cell (World.block_lt_of_cell? w _ hx134_11)).trans hx134_11
                               replace hx134_12 := (HB.out.cell (World.block_lt_of_cell? w _ hx134_12)).trans hx134_12
                               replace hx134_13 := (HB.out.cell (World.block_lt_of_cell? w _ hx134_13)).trans hx134_13
                               replace hx134_14 := (HB.out.cell (World.block_lt_of_cell? w _ hx134_14)).trans hx134_14
                               replace hx134_15 := (HB.out.cell (World.block_lt_of_cell? w _ hx134_15)).trans hx134_15
                               replace hx134_16 := (HB.out.cell (World.block_lt_of_cell? w _ hx134_16)).trans hx134_16
                               replace hx134_17 := (HB.out.cell (World.block_lt_of_cell? w _ hx134_17)).trans hx134_17
                               replace hx134_18 := (HB.out.cell (World.block_lt_of_cell? w _ hx134_18)).trans hx134_18
                               replace hx134_19 := (HB.out.cell (World.block_lt_of_cell? w _ hx134_19)).trans hx134_19
                               replace hx134_20 := (HB.out.cell (World.block_lt_of_cell? w _ hx134_20)).trans hx134_20
                               replace hx134_21 := (HB.out.cell (World.block_lt_of_cell? w _ hx134_21)).trans hx134_21
                               replace hx134_22 := (HB.out.cell (World.block_lt_of_cell? w _ hx134_22)).trans hx134_22
                               replace hx134_23 := (HB.out.cell (World.block_lt_of_cell? w _ hx134_23)).trans hx134_23
                               replace hx134_24 := (HB.out.cell (World.block_lt_of_cell? w _ hx134_24)).trans hx134_24
                               replace hx134_25 := (HB.out.cell (World.block_lt_of_cell? w _ hx134_25)).trans hx134_25
                               replace hx134_26 := (HB.out.cell (World.block_lt_of_cell? w _ hx134_26)).trans hx134_26
                               replace hx134_27 := (HB.out.cell (World.block_lt_of_cell? w _ hx134_27)).trans hx134_27
                               replace hx134_28 := (HB.out.cell (World.block_lt_of_cell? w _ hx134_28)).trans hx134_28
                               replace hx134_29 := (HB.out.cell (World.block_lt_of_cell? w _ hx134_29)).trans hx134_29
                               replace hx134_30 := (HB.out.cell (World.block_lt_of_cell? w _ hx134_30)).trans hx134_30
                               replace hx134_31 := (HB.out.cell (World.block_lt_of_cell? w _ hx134_31)).trans hx134_31
                               replace hx134_32 := (HB.out.cell (World.block_lt_of_cell? w _ hx134_32)).trans hx134_32
                               replace hx134_33 := (HB.out.cell (World.block_lt_of_cell? w _ hx134_33)).trans hx134_33
                               have HR134_1 := Aside0.mk hi134_1
                               have HC134_1 := Aside0.mk hl134_1
                               clear hi134_1 hl134_1
                               have HR134_31 := Aside0.mk hi134_31
                               have HC134_31 := Aside0.mk hl134_31
                               clear hi134_31 hl134_31
                               replace p134 := eq_true p134
                               replace q134 := eq_true q134
                               have p135 : 0 ≤ (x7_1 : Int) := of_decide_eq_true (by first | (with_reducible assumption) | assumption)
                               have q135 : x7_1 < (x6_2.length : Int) := of_decide_eq_true (by first | (with_reducible assumption) | assumption)
                               obtain ⟨ad135, e135, hx135_0⟩ := Kd.at_int (Kd.R_reads' HO_6.out).2.2 x7_1 p135 q135
                               obtain rfl : ad133 = ad135 := (by injection e135)
                               replace p135 := eq_true p135
                               replace q135 := eq_true q135
                               have p136 : 0 ≤ ((rd x6_2 x7_1) : Int) := of_decide_eq_true (by first | (with_reducible assumption) | assumption)
                               have q136 : (rd x6_2 x7_1) < (l0.length : Int) := of_decide_eq_true (by first | (with_reducible assumption) | assumption)
                               obtain ⟨ad136, A136_1, c136_1, A136_31, c136_31, e136, hx136_0, hx136_1, hx136_2, hx136_3, hx136_4, hx136_5, hx136_6, hx136_7, hx136_8, hx136_9, hx136_10, hx136_11, hx136_12, hx136_13, hx136_14, hx136_15, hx136_16, hx136_17, hx136_18, hx136_19, hx136_20, hx136_21, hx136_22, hx136_23, hx136_24, hx136_25, hx136_26, hx136_27, hx136_28, hx136_29, hx136_30, hx136_31, hx136_32, hx136_33, hl136_1, hi136_1, hl136_31, hi136_31⟩ := at_T42 HR0.out (rd x6_2 x7_1) p136 q136
                               (try rw [← Nbq23.out] at hx136_25)
                               (try rw [← Nbq23.out] at hx136_26)
                               (try rw [← Nbq23.out] at hx136_29)
                               (try rw [← Nbq23.out] at hx136_30)
                               obtain rfl : ad134 = ad136 := (by injection e136)
                               replace hx136_0 := (HB.out.cell (World.block_lt_of_cell? w _ hx136_0)).trans hx136_0
                               replace hx136_1 := (HB.out.cell (World.block_lt_of_cell? w _ hx136_1)).trans hx136_1
                               replace hx136_2 := (HB.out.cell (World.block_lt_of_cell? w _ hx136_2)).trans hx136_2
                               replace hx136_3 := (HB.out.cell (World.block_lt_of_cell? w _ hx136_3)).trans hx136_3
                               replace hx136_4 := (HB.out.cell (World.block_lt_of_cell? w _ hx136_4)).trans hx136_4
                               replace hx136_5 := (HB.out.cell (World.block_lt_of_cell? w _ hx136_5)).trans hx136_5
                               replace hx136_6 := (HB.out.cell (World.block_lt_of_cell? w _ hx136_6)).trans hx136_6
                               replace hx136_7 := (HB.out.cell (World.block_lt_of_cell? w _ hx136_7)).trans hx136_7
                               replace hx136_8 := (HB.out.cell (World.block_lt_of_cell? w _ hx136_8)).trans hx136_8
                               replace hx136_9 := (HB.out.cell (World.block_lt_of_cell? w _ hx136_9)).trans hx136_9
                               replace hx136_10 := (HB.out.cell (World.block_lt_of_cell? w _ hx136_10)).trans hx136_10
                               replace hx136_11 := (HB.out.cell (World.block_lt_of_cell? w _ hx136_11)).trans hx136_11
                               replace hx136_12 := (HB.out.cell (World.block_lt_of_cell? w _ hx136_12)).trans hx136_12
                               replace hx136_13 := (HB.out.cell (World.block_lt_of_cell? w _ hx136_13)).trans hx136_13
                               replace hx136_14 := (HB.out.cell (World.block_lt_of_cell? w _ hx136_14)).trans hx136_14
                               replace hx136_15 := (HB.out.cell (World.block_lt_of_cell? w _ hx136_15)).trans hx136_15
                               replace hx136_16 := (HB.out.cell (World.block_lt_of_cell? w _ hx136_16)).trans hx136_16
                               replace hx136_17 := (HB.out.cell (World.block_lt_of_cell? w _ hx136_17)).trans hx136_17
                               replace hx136_18 := (HB.out.cell (World.block_lt_of_cell? w _ hx136_18)).trans hx136_18
                               replace hx136_19 := (HB.out.cell (World.block_lt_of_cell? w _ hx136_19)).trans hx136_19
                               replace hx136_20 := (HB.out.cell (World.block_lt_of_cell? w _ hx136_20)).trans hx136_20
                               replace hx136_21 := (HB.out.cell (World.block_lt_of_cell? w _ hx136_21)).trans hx136_21
                               replace hx136_22 := (HB.out.cell (World.block_lt_of_cell? w _ hx136_22)).trans hx136_22
                               replace hx136_23 := (HB.out.cell (World.block_lt_of_cell? w _ hx136_23)).trans hx136_23
                               replace hx136_24 := (HB.out.cell (World.block_lt_of_cell? w _ hx136_24)).trans hx136_24
                               replace hx136_25 := (HB.out.cell (World.block_lt_of_cell? w _ hx136_25)).trans hx136_25
                               replace hx136_26 := (HB.out.cell (World.block_lt_of_cell? w _ hx136_26)).trans hx136_26
                               replace hx136_27 := (HB.out.cell (World.block_lt_of_cell? w _ hx136_27)).trans hx136_27
                               replace hx136_28 := (HB.out.cell (World.block_lt_of_cell? w _ hx136_28)).trans hx136_28
                               replace hx136_29 := (HB.out.cell (World.block_lt_of_cell? w _ hx136_29)).trans hx136_29
                               replace hx136_30 := (HB.out.cell (World.block_lt_of_cell? w _ hx136_30)).trans hx136_30
                               replace hx136_31 := (HB.out.cell (World.block_lt_of_cell? w _ hx136_31)).trans hx136_31
                               replace hx136_32 := (HB.out.cell (World.block_lt_of_cell? w _ hx136_32)).trans hx136_32
                               replace hx136_33 := (HB.out.cell (World.block_lt_of_cell? w _ hx136_33)).trans hx136_33
                               have HR136_1 := Aside0.mk hi136_1
                               have HC136_1 := Aside0.mk hl136_1
                               clear hi136_1 hl136_1
                               have HR136_31 := Aside0.mk hi136_31
                               have HC136_31 := Aside0.mk hl136_31
                               clear hi136_31 hl136_31
                               replace p136 := eq_true p136
                               replace q136 := eq_true q136
                               have ea_ := Option.some.inj (hx134_1.symm.trans hx136_1)
                               injection ea_ with ea_ en_ ec_
                               subst ea_
                               subst ec_
                               clear en_
                               have ea_ := Option.some.inj (hx134_31.symm.trans hx136_31)
                               injection ea_ with ea_ en_ ec_
                               subst ea_
                               subst ec_
                               clear en_
                               have p137 : 0 ≤ (x8_2 : Int) := of_decide_eq_true (by first | (with_reducible assumption) | assumption)
                               have q137 : x8_2 < (((rd_T42 l0 (rd x6_2 x7_1)).f1).length : Int) := of_decide_eq_true (by first | (with_reducible assumption) | assumption)
                               obtain ⟨ad137, e137, hx137_0⟩ := Kd.at_int HR136_1.out x8_2 p137 q137
                               cases e137
                               replace hx137_0 := (HB.out.cell (World.block_lt_of_cell? w _ hx137_0)).trans hx137_0
                               replace p137 := eq_true p137
                               replace q137 := eq_true q137
                               have p138 : 0 ≤ ((rd ((rd_T42 l0 (rd x6_2 x7_1)).f1) x8_2) : Int) := of_decide_eq_true (by first | (with_reducible assumption) | assumption)
                               have q138 : (rd ((rd_T42 l0 (rd x6_2 x7_1)).f1) x8_2) < (x5_2.length : Int) := of_decide_eq_true (by first | (with_reducible assumption) | assumption)
                               obtain ⟨ad138, e138, hx138_0⟩ := Kd.at_bool (Kd.R_reads' HO_5.out).2.2 (rd ((rd_T42 l0 (rd x6_2 x7_1)).f1) x8_2) p138 q138
                               (try rw [← Nbq23.out] at hx138_0)
                               obtain rfl : (⟨go6, 0, none⟩ : Addr) = ad138 := (by injection e138)
                               (first | simp only [add_plain] at hx138_0 | simp only [add_at] at hx138_0 | simp only [Addr.add, Nat.zero_add] at hx138_0 | skip)
                               replace p138 := eq_true p138
                               replace q138 := eq_true q138
                               go_wp2
                               (try simp only [← hl5_2])
                               go_roundg k2
                               case measure => have := HK1.out; have := HK2.out; omega
                               case rel => exact ⟨(x5_2), (x6_2), (wrap64 (x8_2 + 1)), (by first | rfl | (simp; done) | (simp [*]; done)), H', ⟨by have := HK1.out; have := HK2.out; omega⟩, ⟨by (try simp only [hl5_1]); (try simp only [hl5_2]); (with_reducible repeat (first | apply Kd.R_alloc | apply Kd.R_drewN | apply Kd.R_drew)); exact HO_5.out⟩, ⟨by (try simp only [hl5_1]); (try simp only [hl5_2]); (with_reducible repeat (first | apply Kd.R_alloc | apply Kd.R_drewN | apply Kd.R_drew)); exact HO_6.out⟩, ⟨by repeat (first | (with_reducible first | exact HB.out | apply below_alloc | apply pw_below_drewN | apply below_drew1) | exact HB.out)⟩⟩
                             · replace c24 := Bool.eq_false_iff.mpr c24
                               subst c24
                               have H1 : (if x6_2.length < 17592186044416 then (purflingref04_reached.l1 k2 l0 a1 (x5_2.set ((rd ((rd_T42 l0 (rd x6_2 x7_1)).f1) x8_2) : Int).toNat true) (x6_2 ++ [rd ((rd_T42 l0 (rd x6_2 x7_1)).f1) x8_2]) x7_1 (wrap64 (x8_2 + 1))) else (none)) = some r := by rw [if_neg (show ¬ (false = true) by decide)] at H; exact H
                               clear H
                               have H := H1
                               clear H1
                               obtain ⟨y139, hy139⟩ : ∃ y_ : List Bool, y_ = (x5_2.set ((rd ((rd_T42 l0 (rd x6_2 x7_1)).f1) x8_2) : Int).toNat true) := ⟨_, rfl⟩
                               replace H : (if x6_2.length < 17592186044416 then (purflingref04_reached.l1 k2 l0 a1 y139 (x6_2 ++ [rd ((rd_T42 l0 (rd x6_2 x7_1)).f1) x8_2]) x7_1 (wrap64 (x8_2 + 1))) else (none)) = some r := by first | (rw [hy139]; with_reducible exact H) | (have H2_ := (Option.bind_some _ _).symm.trans H; rw [hy139]; with_reducible exact H2_) | (have H2_ := (Option.bind_some _ _).symm.trans H; with_reducible exact H2_) | with_reducible exact H | (rw [hy139]; exact H) | exact H
                               have Ny139 := Aside0.mk hy139
                               clear hy139
                               by_cases c27 : x6_2.length < 17592186044416
                               · rw [if_pos c27] at H
                                 have LMc27 := Aside0.mk c27
                                 clear c27
                                 obtain ⟨y140, hy140⟩ : ∃ y_ : List Int, y_ = (x6_2 ++ [rd ((rd_T42 l0 (rd x6_2 x7_1)).f1) x8_2]) := ⟨_, rfl⟩
                                 replace H : (purflingref04_reached.l1 k2 l0 a1 y139 y140 x7_1 (wrap64 (x8_2 + 1))) = some r := by first | (rw [hy140]; with_reducible exact H) | (have H2_ := (Option.bind_some _ _).symm.trans H; rw [hy140]; with_reducible exact H2_) | (have H2_ := (Option.bind_some _ _).symm.trans H; with_reducible exact H2_) | with_reducible exact H | (rw [hy140]; exact H) | exact H
                                 have Ny140 := Aside0.mk hy140
                                 clear hy140
                                 have H' := Aside0.mk H
                                 clear H
                                 obtain ⟨Ao28, co28, eo28⟩ := Kd.R_slice HO_6.out
                                 subst eo28
                                 have p133 : 0 ≤ (x7_1 : Int) := of_decide_eq_true (by first | (with_reducible assumption) | assumption)
                                 have q133 : x7_1 < (x6_2.length : Int) := of_decide_eq_true (by first | (with_reducible assumption) | assumption)
                                 obtain ⟨ad133, e133, hx133_0⟩ := Kd.at_int (Kd.R_reads' HO_6.out).2.2 x7_1 p133 q133
                                 cases e133
                                 replace p133 := eq_true p133
                                 replace q133 := eq_true q133
                                 have p134 : 0 ≤ ((rd x6_2 x7_1) : Int) := of_decide_eq_true (by first | (with_reducible assumption) | assumption)
                                 have q134 : (rd x6_2 x7_1) < (l0.length : Int) := of_decide_eq_true (by first | (with_reducible assumption) | assumption)
                                 obtain ⟨ad134, A134_1, c134_1, A134_31, c134_31, e134, hx134_0, hx134_1, hx134_2, hx134_3, hx134_4, hx134_5, hx134_6, hx134_7, hx134_8, hx134_9, hx134_10, hx134_11, hx134_12, hx134_13, hx134_14, hx134_15, hx134_16, hx134_17, hx134_18, hx134_19, hx134_20, hx134_21, hx134_22, hx134_23, hx134_24, hx134_25, hx134_26, hx134_27, hx134_28, hx134_29, hx134_30, hx134_31, hx134_32, hx134_33, hl134_1, hi134_1, hl134_31, hi134_31⟩ := at_T42 HR0.out (rd x6_2 x7_1) p134 q134
                                 (try rw [← Nbq23.out] at hx134_25)
                                 (try rw [← Nbq23.out] at hx134_26)
                                 (try rw [← Nbq23.out] at hx134_29)
                                 (try rw [← Nbq23.out] at hx134_30)
                                 cases e134
                                 replace hx134_0 := (HB.out.cell (World.block_lt_of_cell? w _ hx134_0)).trans hx134_0
                                 replace hx134_1 := (HB.out.cell (World.block_lt_of_cell? w _ hx134_1)).trans hx134_1
                                 replace hx134_2 := (HB.out.cell (World.block_lt_of_cell? w _ hx134_2)).trans hx134_2
                                 replace hx134_3 := (HB.out.cell (World.block_lt_of_cell? w _ hx134_3)).trans hx134_3
                                 replace hx134_4 := (HB.out.cell (World.block_lt_of_cell? w _ hx134_4)).trans hx134_4
                                 replace hx134_5 := (HB.out.cell (World.block_lt_of_cell? w _ hx134_5)).trans hx134_5
                                 replace hx134_6 := (HB.out.cell (World.block_lt_of_cell? w _ hx134_6)).trans hx134_6
                                 replace hx134_7 := (HB.out.cell (World.block_lt_of_cell? w _ hx134_7)).trans hx134_7
                                 replace hx134_8 := (HB.out.cell (World.block_lt_of_cell? w _ hx134_8)).trans hx134_8
                                 replace hx134_9 := (HB.out.cell (World.block_lt_of_cell? w _ hx134_9)).trans hx134_9
                                 replace hx134_10 := (HB.out.cell (World.block_lt_of_cell? w _ hx134_10)).trans hx134_10
                                 replace hx134_11 := (HB.out.cell (World.block_lt_of_cell? w _ hx134_11)).trans hx134_11
                                 replace hx134_12 := (HB.out.cell (World.block_lt_of_cell? w _ hx134_12)).trans hx134_12
                                 replace hx134_13 := (HB.out.cell (World.block_lt_of_cell? w _ hx134_13)).trans hx134_13
                                 replace hx134_14 := (HB.out.cell (World.block_lt_of_cell? w _ hx134_14)).trans hx134_14
                                 replace hx134_15 := (HB.out.cell (World.block_lt_of_cell? w _ hx134_15)).trans hx134_15
                                 replace hx134_16 := (HB.out.cell (World.block_lt_of_cell? w _ hx134_16)).trans hx134_16
                                 replace hx134_17 := (HB.out.cell (World.block_lt_of_cell? w _ hx134_17)).trans hx134_17
                                 replace hx134_18 := (HB.out.cell (World.block_lt_of_cell? w _ hx134_18)).trans hx134_18
                                 replace hx134_19 := (HB.out.cell (World.block_lt_of_cell? w _ hx134_19)).trans hx134_19
                                 replace hx134_20 := (HB.out.cell (World.block_lt_of_cell? w _ hx134_20)).trans hx134_20
                                 replace hx134_21 := (HB.out.cell (World.block_lt_of_cell? w _ hx134_21)).trans hx134_21
                                 replace hx134_22 := (HB.out.cell (World.block_lt_of_cell? w _ hx134_22)).trans hx134_22
                                 replace hx134_23 := (HB.out.cell (World.block_lt_of_cell? w _ hx134_23)).trans hx134_23
                                 replace hx134_24 := (HB.out.cell (World.block_lt_of_cell? w _ hx134_24)).trans hx134_24
                                 replace hx134_25 := (HB.out.cell (World.block_lt_of_cell? w _ hx134_25)).trans hx134_25
                                 replace hx134_26 := (HB.out.cell (World.block_lt_of_cell? w _ hx134_26)).trans hx134_26
                                 replace hx134_27 := (HB.out.cell (World.block_lt_of_cell? w _ hx134_27)).trans hx134_27
                                 replace hx134_28 := (HB.out.cell (World.block_lt_of_cell? w _ hx134_28)).trans hx134_28
                                 replace hx134_29 := (HB.out.cell (World.block_lt_of_cell? w _ hx134_29)).trans hx134_29
                                 replace hx134_30 := (HB.out.cell (World.block_lt_of_cell? w _ hx134_30)).trans hx134_30
                                 replace hx134_31 := (HB.out.cell (World.block_lt_of_cell? w _ hx134_31)).trans hx134_31
                                 replace hx134_32 := (HB.out.cell (World.block_lt_of_cell? w _ hx134_32)).trans hx134_32
                                 replace hx134_33 := (HB.out.cell (World.block_lt_of_cell? w _ hx134_33)).trans hx134_33
                                 have HR134_1 := Aside0.mk hi134_1
                                 have HC134_1 := Aside0.mk hl134_1
                                 clear hi134_1 hl134_1
                                 have HR134_31 := Aside0.mk hi134_31
                                 have HC134_31 := Aside0.mk hl134_31
                                 clear hi134_31 hl134_31
                                 replace p134 := eq_true p134
                                 replace q134 := eq_true q134
                                 have p135 : 0 ≤ (x7_1 : Int) := of_decide_eq_true (by first | (with_reducible assumption) | assumption)
                                 have q135 : x7_1 < (x6_2.length : Int) := of_decide_eq_true (by first | (with_reducible assumption) | assumption)
                                 obtain ⟨ad135, e135, hx135_0⟩ := Kd.at_int (Kd.R_reads' HO_6.out).2.2 x7_1 p135 q135
                                 obtain rfl : ad133 = ad135 := (by injection e135)
                                 replace p135 := eq_true p135
                                 replace q135 := eq_true q135
                                 have p136 : 0 ≤ ((rd x6_2 x7_1) : Int) := of_decide_eq_true (by first | (with_reducible assumption) | assumption)
                                 have q136 : (rd x6_2 x7_1) < (l0.length : Int) := of_decide_eq_true (by first | (with_reducible assumption) | assumption)
                                 obtain ⟨ad136, A136_1, c136_1, A136_31, c136_31, e136, hx136_0, hx136_1, hx136_2, hx136_3, hx136_4, hx136_5, hx136_6, hx136_7, hx136_8, hx136_9, hx136_10, hx136_11, hx136_12, hx136_13, hx136_14, hx136_15, hx136_16, hx136_17, hx136_18, hx136_19, hx136_20, hx136_21, hx136_22, hx136_23, hx136_24, hx136_25, hx136_26, hx136_27, hx136_28, hx136_29, hx136_30, hx136_31, hx136_32, hx136_33, hl136_1, hi136_1, hl136_31, hi136_31⟩ := at_T42 HR0.out (rd x6_2 x7_1) p136 q136
                                 (try rw [← Nbq23.out] at hx136_25)
                                 (try rw [← Nbq23.out] at hx136_26)
                                 (try rw [← Nbq23.out] at hx136_29)
                                 (try rw [← Nbq23.out] at hx136_30)
                                 obtain rfl : ad134 = ad136 := (by injection e136)
                                 replace hx136_0 := (HB.out.cell (World.block_lt_of_cell? w _ hx136_0)).trans hx136_0
                                 replace hx136_1 := (HB.out.cell (World.block_lt_of_cell? w _ hx136_1)).trans hx136_1
                                 replace hx136_2 := (HB.out.cell (World.block_lt_of_cell? w _ hx136_2)).trans hx136_2
                                 replace hx136_3 := (HB.out.cell (World.block_lt_of_cell? w _ hx136_3)).trans hx136_3
                                 replace hx136_4 := (HB.out.cell (World.block_lt_of_cell? w _ hx136_4)).trans hx136_4
                                 replace hx136_5 := (HB.out.cell (World.block_lt_of_cell? w _ hx136_5)).trans hx136_5
                                 replace hx136_6 := (HB.out.cell (World.block_lt_of_cell? w _ hx136_6)).trans hx136_6
                                 replace hx136_7 := (HB.out.cell (World.block_lt_of_cell? w _ hx136_7)).trans hx136_7
                                 replace hx136_8 := (HB.out.cell (World.block_lt_of_cell? w _ hx136_8)).trans hx136_8
                                 replace hx136_9 := (HB.out.cell (World.block_lt_of_cell? w _ hx136_9)).trans hx136_9
                                 replace hx136_10 := (HB.out.cell (World.block_lt_of_cell? w _ hx136_10)).trans hx136_10
                                 replace hx136_11 := (HB.out.cell (World.block_lt_of_cell? w _ hx136_11)).trans hx136_11
                                 replace hx136_12 := (HB.out.cell (World.block_lt_of_cell? w _ hx136_12)).trans hx136_12
                                 replace hx136_13 := (HB.out.cell (World.block_lt_of_cell? w _ hx136_13)).trans hx136_13
                                 replace hx136_14 := (HB.out.cell (World.block_lt_of_cell? w _ hx136_14)).trans hx136_14
                                 replace hx136_15 := (HB.out.cell (World.block_lt_of_cell? w _ hx136_15)).trans hx136_15
                                 replace hx136_16 := (HB.out.cell (World.block_lt_of_cell? w _ hx136_16)).trans hx136_16
                                 replace hx136_17 := (HB.out.cell (World.block_lt_of_cell? w _ hx136_17)).trans hx136_17
                                 replace hx136_18 := (HB.out.cell (World.block_lt_of_cell? w _ hx136_18)).trans hx136_18
                                 replace hx136_19 := (HB.out.cell (World.block_lt_of_cell? w _ hx136_19)).trans hx136_19
                                 replace hx136_20 := (HB.out.cell (World.block_lt_of_cell? w _ hx136_20)).trans hx136_20
                                 replace hx136_21 := (HB.out.cell (World.block_lt_of_cell? w _ hx136_21)).trans hx136_21
                                 replace hx136_22 := (HB.out.cell (World.block_lt_of_cell? w _ hx136_22)).trans hx136_22
                                 replace hx136_23 := (HB.out.cell (World.block_lt_of_cell? w _ hx136_23)).trans hx136_23
                                 replace hx136_24 := (HB.out.cell (World.block_lt_of_cell? w _ hx136_24)).trans hx136_24
                                 replace hx136_25 := (HB.out.cell (World.block_lt_of_cell? w _ hx136_25)).trans hx136_25
                                 replace hx136_26 := (HB.out.cell (World.block_lt_of_cell? w _ hx136_26)).trans hx136_26
                                 replace hx136_27 := (HB.out.cell (World.block_lt_of_cell? w _ hx136_27)).trans hx136_27
                                 replace hx136_28 := (HB.out.cell (World.block_lt_of_cell? w _ hx136_28)).trans hx136_28
                                 replace hx136_29 := (HB.out.cell (World.block_lt_of_cell? w _ hx136_29)).trans hx136_29
                                 replace hx136_30 := (HB.out.cell (World.block_lt_of_cell? w _ hx136_30)).trans hx136_30
                                 replace hx136_31 := (HB.out.cell (World.block_lt_of_cell? w _ hx136_31)).trans hx136_31
                                 replace hx136_32 := (HB.out.cell (World.block_lt_of_cell? w _ hx136_32)).trans hx136_32
                                 replace hx136_33 := (HB.out.cell (World.block_lt_of_cell? w _ hx136_33)).trans hx136_33
                                 have HR136_1 := Aside0.mk hi136_1
                                 have HC136_1 := Aside0.mk hl136_1
                                 clear hi136_1 hl136_1
                                 have HR136_31 := Aside0.mk hi136_31
                                 have HC136_31 := Aside0.mk hl136_31
                                 clear hi136_31 hl136_31
                                 replace p136 := eq_true p136
                                 replace q136 := eq_true q136
                                 have ea_ := Option.some.inj (hx134_1.symm.trans hx136_1)
                                 injection ea_ with ea_ en_ ec_
                                 subst ea_
                                 subst ec_
                                 clear en_
                                 have ea_ := Option.some.inj (hx134_31.symm.trans hx136_31)
                                 injection ea_ with ea_ en_ ec_
                                 subst ea_
                                 subst ec_
                                 clear en_
                                 have p137 : 0 ≤ (x8_2 : Int) := of_decide_eq_true (by first | (with_reducible assumption) | assumption)
                                 have q137 : x8_2 < (((rd_T42 l0 (rd x6_2 x7_1)).f1).length : Int) := of_decide_eq_true (by first | (with_reducible assumption) | assumption)
                                 obtain ⟨ad137, e137, hx137_0⟩ := Kd.at_int HR136_1.out x8_2 p137 q137
                                 cases e137
                                 replace hx137_0 := (HB.out.cell (World.block_lt_of_cell? w _ hx137_0)).trans hx137_0
                                 replace p137 := eq_true p137
                                 replace q137 := eq_true q137
                                 have p138 : 0 ≤ ((rd ((rd_T42 l0 (rd x6_2 x7_1)).f1) x8_2) : Int) := of_decide_eq_true (by first | (with_reducible assumption) | assumption)
                                 have q138 : (rd ((rd_T42 l0 (rd x6_2 x7_1)).f1) x8_2) < (x5_2.length : Int) := of_decide_eq_true (by first | (with_reducible assumption) | assumption)
                                 obtain ⟨ad138, e138, hx138_0⟩ := Kd.at_bool (Kd.R_reads' HO_5.out).2.2 (rd ((rd_T42 l0 (rd x6_2 x7_1)).f1) x8_2) p138 q138
                                 (try rw [← Nbq23.out] at hx138_0)
                                 obtain rfl : (⟨go6, 0, none⟩ : Addr) = ad138 := (by injection e138)
                                 (first | simp only [add_plain] at hx138_0 | simp only [add_at] at hx138_0 | simp only [Addr.add, Nat.zero_add] at hx138_0 | skip)
                                 replace p138 := eq_true p138
                                 replace q138 := eq_true q138
                                 have p26 : 0 ≤ ((rd ((rd_T42 l0 (rd x6_2 x7_1)).f1) x8_2) : Int) := of_decide_eq_true (by first | (with_reducible assumption) | assumption)
                                 have q26 : ((rd ((rd_T42 l0 (rd x6_2 x7_1)).f1) x8_2) : Int) < ((x5_2.length : Int) : Int) := of_decide_eq_true (by first | (with_reducible assumption) | assumption)
                                 obtain ⟨hx26_0, hf26_0⟩ := Kd.R_celln false HO_5.out ((rd ((rd_T42 l0 (rd x6_2 x7_1)).f1) x8_2) : Int) p26 q26
                                 replace p26 := eq_true p26
                                 replace q26 := eq_true q26
                                 have HP29 := Kd.R_putg HO_5.out ((rd ((rd_T42 l0 (rd x6_2 x7_1)).f1) x8_2) : Int) true
                                 go_wp2_with (first | ((with_reducible refine gate_store (t := 4) (p := 53) rfl ?_); refine store_event (t := 4) (p := 53) (v := ?vo_w30) (w1 := (wr.setCell ⟨go6, ((rd ((rd_T42 l0 (rd x6_2 x7_1)).f1) x8_2) : Int).toNat, none⟩ (.bool true))) ?hg ?ho ?hn ?hr ?_; (case ho => rfl); (case hg => rfl); (case hn => rfl); (case hr => first | (go_simp; done) | (go_simp; rfl)); intro w30 hw; have hg : wr.grownBy w30 (some go6) := (by rw [hw]; exact HP29.2); have hp_ : Kd.R Kd.bool 4 w30 w.heap.size (fun _ => True) (.slice (some ⟨go6, 0, none⟩) x5_2.length co6) y139 := (by rw [hw, Ny139.out]; exact HP29.1); clear HP29; have n0_ := Aside0.mk (hp_); have n1_ := Aside0.mk (Kd.R_over' (v := (.slice (some ⟨go6, 0, none⟩) x5_2.length co6)) (by (with_reducible repeat (first | apply Kd.R_alloc | apply Kd.R_drewN | apply Kd.R_drew)); exact HO_6.out) (Kd.R_typed HO_5.out) (by decide) hg); have n2_ := Aside0.mk ((by rw [hw]; exact below_set (HB.out) GB6.out : Below w.heap.size w w30)); clear HO_5; clear HO_6; clear HB; have HO_5 := n0_; have HO_6 := n1_; have HB := n2_; clear n0_ n1_ n2_; clear hg hw hp_) | ((with_reducible refine gate_builtin (b := .append) (xs := #[.tmp 54, .tmp 56]) rfl ?_); at_builtin; refine Kd.R_append (Kd.int .i64) (w0 := w) w.heap.size rfl (.tmp 54) (.tmp 56) 29 3 (.int .i64 0) 8 rfl Try.underlying29 info3 rfl (by decide) (by omega) (.slice (some ad133) x6_2.length co28) x6_2 (rd ((rd_T42 l0 (rd x6_2 x7_1)).f1) x8_2) [.int .i64 (rd ((rd_T42 l0 (rd x6_2 x7_1)).f1) x8_2)] (fun _ => True) (fun _ => False) rfl rfl ?aP (fun _ hk => hk.elim) ?aF ?aO ?aB ?aS ?aL ?_; (case aP => exact rfl); (case aB => exact (by repeat (first | (with_reducible first | exact HB.out | apply below_alloc | apply pw_below_drewN | apply below_drew1) | exact HB.out))); (case aF => exact (fun _ _ => trivial)); (case aO => exact (by (with_reducible repeat (first | apply Kd.R_alloc | apply Kd.R_drewN | apply Kd.R_drew)); exact HO_6.out)); (case aS => exact (below_size (by repeat (first | (with_reducible first | exact HB.out | apply below_alloc | apply pw_below_drewN | apply below_drew1) | exact HB.out)))); (case aL => have := LMc27.out; omega); intro v141 w31 ho hb hg hat; rw [← Ny140.out] at ho; have n0_ := Aside0.mk (Kd.R_over' (by (with_reducible repeat (first | apply Kd.R_alloc | apply Kd.R_drewN | apply Kd.R_drew)); exact HO_5.out) (Kd.R_typed (by (with_reducible repeat (first | apply Kd.R_alloc | apply Kd.R_drewN | apply Kd.R_drew)); exact HO_6.out)) (by decide) hg); have n1_ := Aside0.mk (hb); have n2_ := Aside0.mk (ho); clear HO_5; clear HB; clear HO_6; have HO_5 := n0_; have HB := n1_; have HO142 := n2_; clear n0_ n1_ n2_; clear ho hb hg hat))
                                 (try simp only [← hl5_2])
                                 go_roundg k2
                                 case measure => have := HK1.out; have := HK2.out; omega
                                 case rel => exact ⟨(y139), (y140), (wrap64 (x8_2 + 1)), (by first | rfl | (simp; done) | (simp [*]; done)), H', ⟨by have := HK1.out; have := HK2.out; omega⟩, ⟨by (try simp only [hl5_1]); (try simp only [hl5_2]); (with_reducible repeat (first | apply Kd.R_alloc | apply Kd.R_drewN | apply Kd.R_drew)); exact HO_5.out⟩, ⟨by (try simp only [hl5_1]); (try simp only [hl5_2]); (with_reducible repeat (first | apply Kd.R_alloc | apply Kd.R_drewN | apply Kd.R_drew)); exact HO142.out⟩, ⟨by repeat (first | (with_reducible first | exact HB.out | apply below_alloc | apply pw_below_drewN | apply below_drew1) | exact HB.out)⟩⟩
                               · rw [if_neg c27] at H
                                 exact absurd H (by simp)
                           · rw [if_neg c22] at H
                             exact absurd H (by simp)
                         · rw [if_neg c21] at H
                           exact absurd H (by simp)
                       · rw [if_neg c20] at H
                         exact absurd H (by simp)
                     · rw [if_neg c19] at H
                       have c19b0 : decide (x8_2 < (((rd_T42 l0 (rd x6_2 x7_1)).f1).length : Int)) = false := decide_eq_false c19
                       clear c19
                       have H' := Aside0.mk H
                       clear H
                       obtain ⟨Ao32, co32, eo32⟩ := Kd.R_slice HO_6.out
                       subst eo32
                       have p133 : 0 ≤ (x7_1 : Int) := of_decide_eq_true (by first | (with_reducible assumption) | assumption)
                       have q133 : x7_1 < (x6_2.length : Int) := of_decide_eq_true (by first | (with_reducible assumption) | assumption)
                       obtain ⟨ad133, e133, hx133_0⟩ := Kd.at_int (Kd.R_reads' HO_6.out).2.2 x7_1 p133 q133
                       cases e133
                       replace p133 := eq_true p133
                       replace q133 := eq_true q133
                       have p134 : 0 ≤ ((rd x6_2 x7_1) : Int) := of_decide_eq_true (by first | (with_reducible assumption) | assumption)
                       have q134 : (rd x6_2 x7_1) < (l0.length : Int) := of_decide_eq_true (by first | (with_reducible assumption) | assumption)
                       obtain ⟨ad134, A134_1, c134_1, A134_31, c134_31, e134, hx134_0, hx134_1, hx134_2, hx134_3, hx134_4, hx134_5, hx134_6, hx134_7, hx134_8, hx134_9, hx134_10, hx134_11, hx134_12, hx134_13, hx134_14, hx134_15, hx134_16, hx134_17, hx134_18, hx134_19, hx134_20, hx134_21, hx134_22, hx134_23, hx134_24, hx134_25, hx134_26, hx134_27, hx134_28, hx134_29, hx134_30, hx134_31, hx134_32, hx134_33, hl134_1, hi134_1, hl134_31, hi134_31⟩ := at_T42 HR0.out (rd x6_2 x7_1) p134 q134
                       cases e134
                       replace hx134_0 := (HB.out.cell (World.block_lt_of_cell? w _ hx134_0)).trans hx134_0
                       replace hx134_1 := (HB.out.cell (World.block_lt_of_cell? w _ hx134_1)).trans hx134_1
                       replace hx134_2 := (HB.out.cell (World.block_lt_of_cell? w _ hx134_2)).trans hx134_2
                       replace hx134_3 := (HB.out.cell (World.block_lt_of_cell? w _ hx134_3)).trans hx134_3
                       replace hx134_4 := (HB.out.cell (World.block_lt_of_cell? w _ hx134_4)).trans hx134_4
                       replace hx134_5 := (HB.out.cell (World.block_lt_of_cell? w _ hx134_5)).trans hx134_5
                       replace hx134_6 := (HB.out.cell (World.block_lt_of_cell? w _ hx134_6)).trans hx134_6
                       replace hx134_7 := (HB.out.cell (World.block_lt_of_cell? w _ hx134_7)).trans hx134_7
                       replace hx134_8 := (HB.out.cell (World.block_lt_of_cell? w _ hx134_8)).trans hx134_8
                       replace hx134_9 := (HB.out.cell (World.block_lt_of_cell? w _ hx134_9)).trans hx134_9
                       replace hx134_10 := (HB.out.cell (World.block_lt_of_cell? w _ hx134_10)).trans hx134_10
                       replace hx134_11 := (HB.out.cell (World.block_lt_of_cell? w _ hx134_11)).trans hx134_11
                       replace hx134_12 := (HB.out.cell (World.block_lt_of_cell? w _ hx134_12)).trans hx134_12
                       replace hx134_13 := (HB.out.cell (World.block_lt_of_cell? w _ hx134_13)).trans hx134_13
                       replace hx134_14 := (HB.out.cell (World.block_lt_of_cell? w _ hx134_14)).trans hx134_14
                       replace hx134_15 := (HB.out.cell (World.block_lt_of_cell? w _ hx134_15)).trans hx134_15
                       replace hx134_16 := (HB.out.cell (World.block_lt_of_cell? w _ hx134_16)).trans hx134_16
                       replace hx134_17 := (HB.out.cell (World.block_lt_of_cell? w _ hx134_17)).trans hx134_17
                       replace hx134_18 := (HB.out.cell (World.block_lt_of_cell? w _ hx134_18)).trans hx134_18
                       replace hx134_19 := (HB.out.cell (World.block_lt_of_cell? w _ hx134_19)).trans hx134_19
                       replace hx134_20 := (HB.out.cell (World.block_lt_of_cell? w _ hx134_20)).trans hx134_20
                       replace hx134_21 := (HB.out.cell (World.block_lt_of_cell? w _ hx134_21)).trans hx134_21
                       replace hx134_22 := (HB.out.cell (World.block_lt_of_cell? w _ hx134_22)).trans hx134_22
                       replace hx134_23 := (HB.out.cell (World.block_lt_of_cell? w _ hx134_23)).trans hx134_23
                       replace hx134_24 := (HB.out.cell (World.block_lt_of_cell? w _ hx134_24)).trans hx134_24
                       replace hx134_25 := (HB.out.cell (World.block_lt_of_cell? w _ hx134_25)).trans hx134_25
                       replace hx134_26 := (HB.out.cell (World.block_lt_of_cell? w _ hx134_26)).trans hx134_26
                       replace hx134_27 := (HB.out.cell (World.block_lt_of_cell? w _ hx134_27)).trans hx134_27
                       replace hx134_28 := (HB.out.cell (World.block_lt_of_cell? w _ hx134_28)).trans hx134_28
                       replace hx134_29 := (HB.out.cell (World.block_lt_of_cell? w _ hx134_29)).trans hx134_29
                       replace hx134_30 := (HB.out.cell (World.block_lt_of_cell? w _ hx134_30)).trans hx134_30
                       replace hx134_31 := (HB.out.cell (World.block_lt_of_cell? w _ hx134_31)).trans hx134_31
                       replace hx134_32 := (HB.out.cell (World.block_lt_of_cell? w _ hx134_32)).trans hx134_32
                       replace hx134_33 := (HB.out.cell (World.block_lt_of_cell? w _ hx134_33)).trans hx134_33
                       have HR134_1 := Aside0.mk hi134_1
                       have HC134_1 := Aside0.mk hl134_1
                       clear hi134_1 hl134_1
                       have HR134_31 := Aside0.mk hi134_31
                       have HC134_31 := Aside0.mk hl134_31
                       clear hi134_31 hl134_31
                       replace p134 := eq_true p134
                       replace q134 := eq_true q134
                       go_wp2
                       (try simp only [← hl5_1, ← hl5_2])
                       go_roundg k2
                       case measure => have := HK1.out; have := HK2.out; omega
                       case rel => exact ⟨(x5_2), (x6_2), (wrap64 (x7_1 + 1)), (by first | rfl | (simp; done) | (simp [*]; done)), H', ⟨by have := HK1.out; have := HK2.out; omega⟩, ⟨by (try simp only [hl5_1]); (try simp only [hl5_2]); (with_reducible repeat (first | apply Kd.R_alloc | apply Kd.R_drewN | apply Kd.R_drew)); exact HO_5.out⟩, ⟨by (try simp only [hl5_1]); (try simp only [hl5_2]); (with_reducible repeat (first | apply Kd.R_alloc | apply Kd.R_drewN | apply Kd.R_drew)); exact HO_6.out⟩, ⟨by repeat (first | (with_reducible first | exact HB.out | apply below_alloc | apply pw_below_drewN | apply below_drew1) | exact HB.out)⟩⟩
                   · rw [if_neg c18] at H
                     exact absurd H (by simp)
                 · rw [if_neg c17] at H
                   exact absurd H (by simp)
               · rw [if_neg c16] at H
                 exact absurd H (by simp)
             · rw [if_neg c15] at H
               exact absurd H (by simp)
         · rw [if_neg c13] at H
           have c13b0 : decide (x7_1 < (x6_1.length : Int)) = false := decide_eq_false c13
           clear c13
           by_cases c33 : 0 ≤ a1
           · rw [if_pos c33] at H
             have c33b0 : decide (0 ≤ a1) = true := decide_eq_true c33
             clear c33
             by_cases c34 : a1 < (x5_1.length : Int)
             · rw [if_pos c34] at H
               have c34b0 : decide (a1 < (x5_1.length : Int)) = true := decide_eq_true c34
               clear c34
               obtain rfl := Option.some.inj H
               obtain ⟨Ao35, co35, eo35⟩ := Kd.R_slice HO_6.out
               subst eo35
               have p132 : 0 ≤ (a1 : Int) := of_decide_eq_true (by first | (with_reducible assumption) | assumption)
               have q132 : a1 < (x5_1.length : Int) := of_decide_eq_true (by first | (with_reducible assumption) | assumption)
               obtain ⟨ad132, e132, hx132_0⟩ := Kd.at_bool (Kd.R_reads' HO_5.out).2.2 a1 p132 q132
               obtain rfl : (⟨go6, 0, none⟩ : Addr) = ad132 := (by injection e132)
               (first | simp only [add_plain] at hx132_0 | simp only [add_at] at hx132_0 | simp only [Addr.add, Nat.zero_add] at hx132_0 | skip)
               replace p132 := eq_true p132
               replace q132 := eq_true q132
               go_wp2
               go_ret
               exact ⟨by first | rfl | (simp [errW_none, errW_some] <;> rfl) | (simp [*, errW_none, errW_some] <;> rfl), by repeat (first | (with_reducible first | exact HB.out | apply below_alloc | apply pw_below_drewN | apply below_drew1) | exact HB.out)⟩
             · rw [if_neg c34] at H
               exact absurd H (by simp)
           · rw [if_neg c33] at H
             exact absurd H (by simp)
     · rw [if_neg c5] at H
       exact absurd H (by simp)
   · rw [if_neg c4] at H
     exact absurd H (by simp)
 · rw [if_neg c3] at H
   exact absurd H (by simp)

end Go.Proofs.Ytmmgdokaapphgaa.K
