-- PRINTED by print.py (a twelfth state) out of the translation. Not trusted: Lean checks it.
import Derived.Test.YtdmnaehgngpikaaK0
import Derived.Test.YtdmnaehgngpikaaK6
namespace Go.Proofs.Ytdmnaehgngpikaa.K
open Go.RowKit Go.Proofs.YtdmnaehgngpikaaW.PrintWords Go.Proofs.YtdmnaehgngpikaaW.PrintLast Go.Proofs.YtdmnaehgngpikaaW.PrintMore
attribute [local go_sem] max2_int min2_int max_two min_two max_three min_three max_four min_four   -- for this text's walks alone
set_option linter.unusedVariables false
set_option linter.unusedSimpArgs false
/-! ### purflingref06_Rows: function 18 -/
def purflingref06_Rows.l0 : Nat → List (S48) → Int → List (S35) → List (S35) → List (S35) → Int → Int → Int → Option ((List (S35)))
 | 0, _, _, _, _, _, _, _, _ => none
 | k + 1, x0, x1, x5, x6, x7, x8, x9, x10 => if 0 ≤ x1 then (if x1 < (x0.length : Int) then (if x10 < (((rd_T48 x0 x1).f1).length : Int) then (if 0 ≤ x10 then (if 0 ≤ (rd ((rd_T48 x0 x1).f1) x10) then (if (rd ((rd_T48 x0 x1).f1) x10) < (x0.length : Int) then (if ((rd_T48 x0 (rd ((rd_T48 x0 x1).f1) x10)).f0) = 9 then (if x6.length < 8796093022208 then (purflingref06_Rows.l0 k x0 x1 x5 (x6 ++ [(⟨rd ((rd_T48 x0 x1).f1) x10, (-1)⟩ : S35)]) x7 x8 x9 (wrap64 (x10 + 1))) else (none)) else (if ((rd_T48 x0 (rd ((rd_T48 x0 x1).f1) x10)).f0) = 6 then (if x8 = 0 then ((purflingref06_group.f k x0 (rd ((rd_T48 x0 x1).f1) x10)).bind fun t145 => (purflingref06_Rows.l0 k x0 x1 t145 x6 x7 (wrap64 (x8 + 1)) x9 (wrap64 (x10 + 1)))) else ((purflingref06_group.f k x0 (rd ((rd_T48 x0 x1).f1) x10)).bind fun t148 => (if x6.length + t148.length < 8796093022208 then (purflingref06_Rows.l0 k x0 x1 x5 (x6 ++ t148) x7 (wrap64 (x8 + 1)) x9 (wrap64 (x10 + 1))) else (none)))) else (if ((rd_T48 x0 (rd ((rd_T48 x0 x1).f1) x10)).f0) = 8 then (if x9 = 0 then ((purflingref06_group.f k x0 (rd ((rd_T48 x0 x1).f1) x10)).bind fun t154 => (purflingref06_Rows.l0 k x0 x1 x5 x6 t154 x8 (wrap64 (x9 + 1)) (wrap64 (x10 + 1)))) else ((purflingref06_group.f k x0 (rd ((rd_T48 x0 x1).f1) x10)).bind fun t157 => (if x6.length + t157.length < 8796093022208 then (purflingref06_Rows.l0 k x0 x1 x5 (x6 ++ t157) x7 x8 (wrap64 (x9 + 1)) (wrap64 (x10 + 1))) else (none)))) else (if ((rd_T48 x0 (rd ((rd_T48 x0 x1).f1) x10)).f0) = 7 then ((purflingref06_group.f k x0 (rd ((rd_T48 x0 x1).f1) x10)).bind fun t163 => (if x6.length + t163.length < 8796093022208 then (purflingref06_Rows.l0 k x0 x1 x5 (x6 ++ t163) x7 x8 x9 (wrap64 (x10 + 1))) else (none))) else (purflingref06_Rows.l0 k x0 x1 x5 x6 x7 x8 x9 (wrap64 (x10 + 1))))))) else (none)) else (none)) else (none)) else (if x5.length + x6.length < 8796093022208 then ((some (x5 ++ x6 : List (S35))).bind fun y133 => (if y133.length + x7.length < 8796093022208 then (some (y133 ++ x7)) else (none))) else (none))) else (none)) else (none)
def purflingref06_Rows.f (k : Nat) (l0 : List (S48)) (a1 : Int) : Option ((List (S35))) := purflingref06_Rows.l0 k l0 a1 ([] : List (S35)) ([] : List (S35)) ([] : List (S35)) 0 0 0
set_option maxHeartbeats 8000000 in
set_option maxRecDepth 100000 in
theorem purflingref06_Rows.calls (k : Nat) (A0 : Option Addr) (c0 : Nat) (l0 : List (S48)) (a1 : Int) (r : List (S35)) (w : World) (hr0 : Kd.C k48 w A0 l0.length l0) (hc0 : l0.length ≤ c0) (h : purflingref06_Rows.f k l0 a1 = some r) :
 Calls Try.prog 18 #[.slice A0 l0.length c0, .int .i64 a1] w fun e w' => ∃ v0_ : Value, e = .returned (v0_) ∧ Kd.R k35 35 w' w.heap.size (fun _ => True) v0_ r ∧ Below w.heap.size w w' := by
 have hu35 := Try.underlying35
 have HR0 := Aside0.mk hr0
 have HC0 := Aside0.mk hc0
 clear hr0 hc0
 have HB := Aside0.mk (Below.refl w.heap.size w)
 have H : (purflingref06_Rows.l0 k l0 a1 ([] : List (S35)) ([] : List (S35)) ([] : List (S35)) 0 0 0) = some r := h
 clear h
 have H' := Aside0.mk H
 clear H
 go_enter Try.func18, Try.ntmps18
 go_wp2
 go_loopg [5, 6, 7, 8, 9, 10] k (fun kq v5 v6 v7 v8 v9 v10 w' => ∃ (x5_1 : List (S35)) (x6_1 : List (S35)) (x7_1 : List (S35)) (x8_1 : Int) (x9_1 : Int) (x10_1 : Int), v8 = .int .i64 x8_1 ∧ v9 = .int .i64 x9_1 ∧ v10 = .int .i64 x10_1 ∧ Aside0 (purflingref06_Rows.l0 kq l0 a1 x5_1 x6_1 x7_1 x8_1 x9_1 x10_1 = some r) ∧ Aside0 (kq ≤ k) ∧ Aside0 (Kd.R k35 35 w' w.heap.size (fun k_ => some k_ ≠ (v6 : Value).ownBlock ∧ some k_ ≠ (v7 : Value).ownBlock) v5 x5_1) ∧ Aside0 (Kd.R k35 35 w' w.heap.size (fun k_ => some k_ ≠ (v5 : Value).ownBlock ∧ some k_ ≠ (v7 : Value).ownBlock) v6 x6_1) ∧ Aside0 (Kd.R k35 35 w' w.heap.size (fun k_ => some k_ ≠ (v5 : Value).ownBlock ∧ some k_ ≠ (v6 : Value).ownBlock) v7 x7_1) ∧ Aside0 (Below w.heap.size w w'))
 case atStart => exact ⟨(([] : List (S35))), (([] : List (S35))), (([] : List (S35))), (0), (0), (0), (by first | rfl | (simp; done) | (simp [*]; done)), (by first | rfl | (simp; done) | (simp [*]; done)), (by first | rfl | (simp; done) | (simp [*]; done)), H', ⟨Nat.le_refl _⟩, ⟨by first | exact Kd.R_nil _ _ _ _ _ | exact Kd.N_nil _ _ _ _ _ | exact Kd.V_nil _ _ _ _ _ | exact Kd.Q_nil _ _ _ _ _ | exact Kd.S_nil _ _ _ _ _⟩, ⟨by first | exact Kd.R_nil _ _ _ _ _ | exact Kd.N_nil _ _ _ _ _ | exact Kd.V_nil _ _ _ _ _ | exact Kd.Q_nil _ _ _ _ _ | exact Kd.S_nil _ _ _ _ _⟩, ⟨by first | exact Kd.R_nil _ _ _ _ _ | exact Kd.N_nil _ _ _ _ _ | exact Kd.V_nil _ _ _ _ _ | exact Kd.Q_nil _ _ _ _ _ | exact Kd.S_nil _ _ _ _ _⟩, ⟨by repeat (first | exact HB.out | apply below_alloc | apply pw_below_drewN | apply below_drew1)⟩⟩
 case round =>
  clear H'
  try clear c1
  try clear p2
  obtain ⟨x5_1, x6_1, x7_1, x8_1, x9_1, x10_1, rfl, rfl, rfl, HA, HK1, HO_5, HO_6, HO_7, HB⟩ := hrel
  cases gk with
  | zero => exact absurd HA.out (by simp [purflingref06_Rows.l0])
  | succ k1 =>
   have H := HA.out
   clear HA
   simp only [purflingref06_Rows.l0] at H
   by_cases c3 : 0 ≤ a1
   · rw [if_pos c3] at H
     have c3b0 : decide (0 ≤ a1) = true := decide_eq_true c3
     clear c3
     by_cases c4 : a1 < (l0.length : Int)
     · rw [if_pos c4] at H
       have c4b0 : decide (a1 < (l0.length : Int)) = true := decide_eq_true c4
       clear c4
       by_cases c5 : x10_1 < (((rd_T48 l0 a1).f1).length : Int)
       · rw [if_pos c5] at H
         have c5b0 : decide (x10_1 < (((rd_T48 l0 a1).f1).length : Int)) = true := decide_eq_true c5
         clear c5
         by_cases c6 : 0 ≤ x10_1
         · rw [if_pos c6] at H
           have c6b0 : decide (0 ≤ x10_1) = true := decide_eq_true c6
           clear c6
           by_cases c7 : 0 ≤ (rd ((rd_T48 l0 a1).f1) x10_1)
           · rw [if_pos c7] at H
             have c7b0 : decide (0 ≤ (rd ((rd_T48 l0 a1).f1) x10_1)) = true := decide_eq_true c7
             clear c7
             by_cases c8 : (rd ((rd_T48 l0 a1).f1) x10_1) < (l0.length : Int)
             · rw [if_pos c8] at H
               have c8b0 : decide ((rd ((rd_T48 l0 a1).f1) x10_1) < (l0.length : Int)) = true := decide_eq_true c8
               clear c8
               by_cases c9 : ((rd_T48 l0 (rd ((rd_T48 l0 a1).f1) x10_1)).f0) = 9
               · rw [if_pos c9] at H
                 have c9b0 : (((rd_T48 l0 (rd ((rd_T48 l0 a1).f1) x10_1)).f0) == 9) = true := beq_iff_eq.mpr c9
                 have c9b1 : (((rd_T48 l0 (rd ((rd_T48 l0 a1).f1) x10_1)).f0) != 9) = false := bne_eq_false_iff_eq.mpr c9
                 clear c9
                 by_cases c10 : x6_1.length < 8796093022208
                 · rw [if_pos c10] at H
                   have LMc10 := Aside0.mk c10
                   clear c10
                   obtain ⟨y142, hy142⟩ : ∃ y_ : List (S35), y_ = (x6_1 ++ [(⟨rd ((rd_T48 l0 a1).f1) x10_1, (-1)⟩ : S35)]) := ⟨_, rfl⟩
                   replace H : (purflingref06_Rows.l0 k1 l0 a1 x5_1 y142 x7_1 x8_1 x9_1 (wrap64 (x10_1 + 1))) = some r := by first | (rw [hy142]; with_reducible exact H) | (have H2_ := (Option.bind_some _ _).symm.trans H; rw [hy142]; with_reducible exact H2_) | (have H2_ := (Option.bind_some _ _).symm.trans H; with_reducible exact H2_) | with_reducible exact H | (rw [hy142]; exact H) | exact H
                   have Ny142 := Aside0.mk hy142
                   clear hy142
                   have H' := Aside0.mk H
                   clear H
                   have p132 : 0 ≤ (a1 : Int) := of_decide_eq_true (by first | (with_reducible assumption) | assumption)
                   have q132 : a1 < (l0.length : Int) := of_decide_eq_true (by first | (with_reducible assumption) | assumption)
                   obtain ⟨ad132, A132_1, c132_1, A132_31, c132_31, e132, hx132_0, hx132_1, -, -, -, -, -, -, -, -, -, -, -, -, -, -, -, -, -, -, -, -, hx132_22, -, -, -, -, -, -, -, -, hx132_31, -, -, hl132_1, hi132_1, hl132_31, hi132_31⟩ := at_T48 HR0.out a1 p132 q132
                   cases e132
                   replace hx132_0 := (HB.out.cell (World.block_lt_of_cell? w _ hx132_0)).trans hx132_0
                   replace hx132_1 := (HB.out.cell (World.block_lt_of_cell? w _ hx132_1)).trans hx132_1
                   replace hx132_22 := (HB.out.cell (World.block_lt_of_cell? w _ hx132_22)).trans hx132_22
                   replace hx132_31 := (HB.out.cell (World.block_lt_of_cell? w _ hx132_31)).trans hx132_31
                   have HR132_1 := Aside0.mk hi132_1
                   have HC132_1 := Aside0.mk hl132_1
                   clear hi132_1 hl132_1
                   have HR132_31 := Aside0.mk hi132_31
                   have HC132_31 := Aside0.mk hl132_31
                   clear hi132_31 hl132_31
                   replace p132 := eq_true p132
                   replace q132 := eq_true q132
                   have p139 : 0 ≤ (a1 : Int) := of_decide_eq_true (by first | (with_reducible assumption) | assumption)
                   have q139 : a1 < (l0.length : Int) := of_decide_eq_true (by first | (with_reducible assumption) | assumption)
                   obtain ⟨ad139, A139_1, c139_1, A139_31, c139_31, e139, hx139_0, hx139_1, -, -, -, -, -, -, -, -, -, -, -, -, -, -, -, -, -, -, -, -, hx139_22, -, -, -, -, -, -, -, -, hx139_31, -, -, hl139_1, hi139_1, hl139_31, hi139_31⟩ := at_T48 HR0.out a1 p139 q139
                   obtain rfl : ad132 = ad139 := (by injection e139)
                   replace hx139_0 := (HB.out.cell (World.block_lt_of_cell? w _ hx139_0)).trans hx139_0
                   replace hx139_1 := (HB.out.cell (World.block_lt_of_cell? w _ hx139_1)).trans hx139_1
                   replace hx139_22 := (HB.out.cell (World.block_lt_of_cell? w _ hx139_22)).trans hx139_22
                   replace hx139_31 := (HB.out.cell (World.block_lt_of_cell? w _ hx139_31)).trans hx139_31
                   have HR139_1 := Aside0.mk hi139_1
                   have HC139_1 := Aside0.mk hl139_1
                   clear hi139_1 hl139_1
                   have HR139_31 := Aside0.mk hi139_31
                   have HC139_31 := Aside0.mk hl139_31
                   clear hi139_31 hl139_31
                   replace p139 := eq_true p139
                   replace q139 := eq_true q139
                   have ea_ := Option.some.inj (hx132_1.symm.trans hx139_1)
                   injection ea_ with ea_ en_ ec_
                   subst ea_
                   subst ec_
                   clear en_
                   have ea_ := Option.some.inj (hx132_31.symm.trans hx139_31)
                   injection ea_ with ea_ en_ ec_
                   subst ea_
                   subst ec_
                   clear en_
                   have p140 : 0 ≤ (x10_1 : Int) := of_decide_eq_true (by first | (with_reducible assumption) | assumption)
                   have q140 : x10_1 < (((rd_T48 l0 a1).f1).length : Int) := of_decide_eq_true (by first | (with_reducible assumption) | assumption)
                   obtain ⟨ad140, e140, hx140_0⟩ := Kd.at_int HR139_1.out x10_1 p140 q140
                   cases e140
                   replace hx140_0 := (HB.out.cell (World.block_lt_of_cell? w _ hx140_0)).trans hx140_0
                   replace p140 := eq_true p140
                   replace q140 := eq_true q140
                   have p141 : 0 ≤ ((rd ((rd_T48 l0 a1).f1) x10_1) : Int) := of_decide_eq_true (by first | (with_reducible assumption) | assumption)
                   have q141 : (rd ((rd_T48 l0 a1).f1) x10_1) < (l0.length : Int) := of_decide_eq_true (by first | (with_reducible assumption) | assumption)
                   obtain ⟨ad141, A141_1, c141_1, A141_31, c141_31, e141, hx141_0, hx141_1, -, -, -, -, -, -, -, -, -, -, -, -, -, -, -, -, -, -, -, -, hx141_22, -, -, -, -, -, -, -, -, -, -, -, hl141_1, hi141_1, hl141_31, hi141_31⟩ := at_T48 HR0.out (rd ((rd_T48 l0 a1).f1) x10_1) p141 q141
                   obtain rfl : ad132 = ad141 := (by injection e141)
                   replace hx141_0 := (HB.out.cell (World.block_lt_of_cell? w _ hx141_0)).trans hx141_0
                   replace hx141_1 := (HB.out.cell (World.block_lt_of_cell? w _ hx141_1)).trans hx141_1
                   replace hx141_22 := (HB.out.cell (World.block_lt_of_cell? w _ hx141_22)).trans hx141_22
                   have HR141_1 := Aside0.mk hi141_1
                   have HC141_1 := Aside0.mk hl141_1
                   clear hi141_1 hl141_1
                   have HR141_31 := Aside0.mk hi141_31
                   have HC141_31 := Aside0.mk hl141_31
                   clear hi141_31 hl141_31
                   replace p141 := eq_true p141
                   replace q141 := eq_true q141
                   go_wp2_with (first | ((with_reducible refine gate_builtin (b := .append) (xs := #[.tmp 37, .tmp 40]) rfl ?_); at_builtin; refine Kd.R_append k35 (w0 := w) w.heap.size rfl (.tmp 37) (.tmp 40) 25 35 (.agg #[(.int .i64 0), (.int .i64 0)]) 16 rfl Try.underlying25 info35 rfl (by decide) (by omega) u6 x6_1 (⟨rd ((rd_T48 l0 a1).f1) x10_1, (-1)⟩ : S35) [.int .i64 (rd ((rd_T48 l0 a1).f1) x10_1), .int .i64 (-1)] (fun k_ => some k_ ≠ (u5 : Value).ownBlock ∧ some k_ ≠ (u7 : Value).ownBlock) (fun _ => False) rfl rfl ?aP (fun _ hk => hk.elim) ?aF ?aO ?aB ?aS ?aL ?_; (case aP => exact k35_mkM _ _ _ (⟨rd ((rd_T48 l0 a1).f1) x10_1, (-1)⟩ : S35)); (case aB => exact (by repeat (first | exact HB.out | apply below_alloc | apply pw_below_drewN | apply below_drew1))); (case aF => exact (fun k_ hk => ⟨Kd.fresh' (Kd.R_lt (by (with_reducible repeat (first | apply Kd.R_alloc | apply Kd.R_drewN | apply Kd.R_drew)); exact HO_5.out)) k_ hk, Kd.fresh' (Kd.R_lt (by (with_reducible repeat (first | apply Kd.R_alloc | apply Kd.R_drewN | apply Kd.R_drew)); exact HO_7.out)) k_ hk⟩)); (case aO => exact (by (with_reducible repeat (first | apply Kd.R_alloc | apply Kd.R_drewN | apply Kd.R_drew)); exact HO_6.out)); (case aS => exact (below_size (by repeat (first | exact HB.out | apply below_alloc | apply pw_below_drewN | apply below_drew1)))); (case aL => have := LMc10.out; omega); intro v143 w11 ho hb hg hat; rw [← Ny142.out] at ho; have n0_ := Aside0.mk (Kd.R_after (ok := (fun k_ => some k_ ≠ (u7 : Value).ownBlock)) (by (with_reducible repeat (first | apply Kd.R_alloc | apply Kd.R_drewN | apply Kd.R_drew)); exact Kd.R_mono HO_5.out (fun _ hk => ⟨hk.2, hk.1⟩)) hg hat); have n1_ := Aside0.mk (Kd.R_after (ok := (fun k_ => some k_ ≠ (u5 : Value).ownBlock)) (by (with_reducible repeat (first | apply Kd.R_alloc | apply Kd.R_drewN | apply Kd.R_drew)); exact HO_7.out) hg hat); have n2_ := Aside0.mk (hb); have n3_ := Aside0.mk (ho); clear HO_5; clear HO_7; clear HB; clear HO_6; have HO_5 := n0_; have HO_7 := n1_; have HB := n2_; have HO144 := n3_; clear n0_ n1_ n2_ n3_; clear ho hb hg hat))
                   go_roundg k1
                   case measure => have := HK1.out; omega
                   case rel => exact ⟨(x5_1), (y142), (x7_1), (x8_1), (x9_1), (wrap64 (x10_1 + 1)), (by first | rfl | (simp; done) | (simp [*]; done)), (by first | rfl | (simp; done) | (simp [*]; done)), (by first | rfl | (simp; done) | (simp [*]; done)), H', ⟨by have := HK1.out; omega⟩, ⟨by (with_reducible repeat (first | apply Kd.R_alloc | apply Kd.R_drewN | apply Kd.R_drew)); exact Kd.R_mono HO_5.out (fun _ hk => ⟨hk.2, hk.1⟩)⟩, ⟨by (with_reducible repeat (first | apply Kd.R_alloc | apply Kd.R_drewN | apply Kd.R_drew)); exact HO144.out⟩, ⟨by (with_reducible repeat (first | apply Kd.R_alloc | apply Kd.R_drewN | apply Kd.R_drew)); exact HO_7.out⟩, ⟨by repeat (first | exact HB.out | apply below_alloc | apply pw_below_drewN | apply below_drew1)⟩⟩
                 · rw [if_neg c10] at H
                   exact absurd H (by simp)
               · rw [if_neg c9] at H
                 have c9b0 : (((rd_T48 l0 (rd ((rd_T48 l0 a1).f1) x10_1)).f0) == 9) = false := beq_eq_false_iff_ne.mpr c9
                 have c9b1 : (((rd_T48 l0 (rd ((rd_T48 l0 a1).f1) x10_1)).f0) != 9) = true := bne_iff_ne.mpr c9
                 by_cases c12 : ((rd_T48 l0 (rd ((rd_T48 l0 a1).f1) x10_1)).f0) = 6
                 · rw [if_pos c12] at H
                   have c12b0 : (((rd_T48 l0 (rd ((rd_T48 l0 a1).f1) x10_1)).f0) == 6) = true := beq_iff_eq.mpr c12
                   have c12b1 : (((rd_T48 l0 (rd ((rd_T48 l0 a1).f1) x10_1)).f0) != 6) = false := bne_eq_false_iff_eq.mpr c12
                   clear c12
                   by_cases c13 : x8_1 = 0
                   · rw [if_pos c13] at H
                     have c13b0 : (x8_1 == 0) = true := beq_iff_eq.mpr c13
                     have c13b1 : (x8_1 != 0) = false := bne_eq_false_iff_eq.mpr c13
                     clear c13
                     replace H := Option.bind_eq_some_iff.mp H
                     obtain ⟨t145, A140, H⟩ := H
                     replace H : (purflingref06_Rows.l0 k1 l0 a1 t145 x6_1 x7_1 (wrap64 (x8_1 + 1)) x9_1 (wrap64 (x10_1 + 1))) = some r := H
                     have A14 := Aside0.mk A140
                     clear A140
                     have H' := Aside0.mk H
                     clear H
                     have p132 : 0 ≤ (a1 : Int) := of_decide_eq_true (by first | (with_reducible assumption) | assumption)
                     have q132 : a1 < (l0.length : Int) := of_decide_eq_true (by first | (with_reducible assumption) | assumption)
                     obtain ⟨ad132, A132_1, c132_1, A132_31, c132_31, e132, hx132_0, hx132_1, -, -, -, -, -, -, -, -, -, -, -, -, -, -, -, -, -, -, -, -, hx132_22, -, -, -, -, -, -, -, -, hx132_31, -, -, hl132_1, hi132_1, hl132_31, hi132_31⟩ := at_T48 HR0.out a1 p132 q132
                     cases e132
                     replace hx132_0 := (HB.out.cell (World.block_lt_of_cell? w _ hx132_0)).trans hx132_0
                     replace hx132_1 := (HB.out.cell (World.block_lt_of_cell? w _ hx132_1)).trans hx132_1
                     replace hx132_22 := (HB.out.cell (World.block_lt_of_cell? w _ hx132_22)).trans hx132_22
                     replace hx132_31 := (HB.out.cell (World.block_lt_of_cell? w _ hx132_31)).trans hx132_31
                     have HR132_1 := Aside0.mk hi132_1
                     have HC132_1 := Aside0.mk hl132_1
                     clear hi132_1 hl132_1
                     have HR132_31 := Aside0.mk hi132_31
                     have HC132_31 := Aside0.mk hl132_31
                     clear hi132_31 hl132_31
                     replace p132 := eq_true p132
                     replace q132 := eq_true q132
                     have p139 : 0 ≤ (a1 : Int) := of_decide_eq_true (by first | (with_reducible assumption) | assumption)
                     have q139 : a1 < (l0.length : Int) := of_decide_eq_true (by first | (with_reducible assumption) | assumption)
                     obtain ⟨ad139, A139_1, c139_1, A139_31, c139_31, e139, hx139_0, hx139_1, -, -, -, -, -, -, -, -, -, -, -, -, -, -, -, -, -, -, -, -, hx139_22, -, -, -, -, -, -, -, -, hx139_31, -, -, hl139_1, hi139_1, hl139_31, hi139_31⟩ := at_T48 HR0.out a1 p139 q139
                     obtain rfl : ad132 = ad139 := (by injection e139)
                     replace hx139_0 := (HB.out.cell (World.block_lt_of_cell? w _ hx139_0)).trans hx139_0
                     replace hx139_1 := (HB.out.cell (World.block_lt_of_cell? w _ hx139_1)).trans hx139_1
                     replace hx139_22 := (HB.out.cell (World.block_lt_of_cell? w _ hx139_22)).trans hx139_22
                     replace hx139_31 := (HB.out.cell (World.block_lt_of_cell? w _ hx139_31)).trans hx139_31
                     have HR139_1 := Aside0.mk hi139_1
                     have HC139_1 := Aside0.mk hl139_1
                     clear hi139_1 hl139_1
                     have HR139_31 := Aside0.mk hi139_31
                     have HC139_31 := Aside0.mk hl139_31
                     clear hi139_31 hl139_31
                     replace p139 := eq_true p139
                     replace q139 := eq_true q139
                     have ea_ := Option.some.inj (hx132_1.symm.trans hx139_1)
                     injection ea_ with ea_ en_ ec_
                     subst ea_
                     subst ec_
                     clear en_
                     have ea_ := Option.some.inj (hx132_31.symm.trans hx139_31)
                     injection ea_ with ea_ en_ ec_
                     subst ea_
                     subst ec_
                     clear en_
                     have p140 : 0 ≤ (x10_1 : Int) := of_decide_eq_true (by first | (with_reducible assumption) | assumption)
                     have q140 : x10_1 < (((rd_T48 l0 a1).f1).length : Int) := of_decide_eq_true (by first | (with_reducible assumption) | assumption)
                     obtain ⟨ad140, e140, hx140_0⟩ := Kd.at_int HR139_1.out x10_1 p140 q140
                     cases e140
                     replace hx140_0 := (HB.out.cell (World.block_lt_of_cell? w _ hx140_0)).trans hx140_0
                     replace p140 := eq_true p140
                     replace q140 := eq_true q140
                     have p141 : 0 ≤ ((rd ((rd_T48 l0 a1).f1) x10_1) : Int) := of_decide_eq_true (by first | (with_reducible assumption) | assumption)
                     have q141 : (rd ((rd_T48 l0 a1).f1) x10_1) < (l0.length : Int) := of_decide_eq_true (by first | (with_reducible assumption) | assumption)
                     obtain ⟨ad141, A141_1, c141_1, A141_31, c141_31, e141, hx141_0, hx141_1, -, -, -, -, -, -, -, -, -, -, -, -, -, -, -, -, -, -, -, -, hx141_22, -, -, -, -, -, -, -, -, -, -, -, hl141_1, hi141_1, hl141_31, hi141_31⟩ := at_T48 HR0.out (rd ((rd_T48 l0 a1).f1) x10_1) p141 q141
                     obtain rfl : ad132 = ad141 := (by injection e141)
                     replace hx141_0 := (HB.out.cell (World.block_lt_of_cell? w _ hx141_0)).trans hx141_0
                     replace hx141_1 := (HB.out.cell (World.block_lt_of_cell? w _ hx141_1)).trans hx141_1
                     replace hx141_22 := (HB.out.cell (World.block_lt_of_cell? w _ hx141_22)).trans hx141_22
                     have HR141_1 := Aside0.mk hi141_1
                     have HC141_1 := Aside0.mk hl141_1
                     clear hi141_1 hl141_1
                     have HR141_31 := Aside0.mk hi141_31
                     have HC141_31 := Aside0.mk hl141_31
                     clear hi141_31 hl141_31
                     replace p141 := eq_true p141
                     replace q141 := eq_true q141
                     go_wp2_with (first | ((with_reducible refine gate_callee (f := 33) rfl ?_); refine goesL_ (some 48) rfl rfl Try.func33 (by kernel_rfl) rfl #[.slice (some ad132) l0.length c0, .int .i64 (rd ((rd_T48 l0 a1).f1) x10_1)] rfl (by (try simp only [List.map_toArray, List.map_cons, List.map_nil]); first | done | rfl) ?_; (with_reducible refine (purflingref06_group.calls k1 _ _ l0 (rd ((rd_T48 l0 a1).f1) x10_1) t145 _ ?side1 ?side2 A14.out).mono ?_); (case side1 => repeat (first | exact (Kd.C_below HR0.out HB.out) | (with_reducible refine Kd.C_alloc ?_ _) | (with_reducible refine Kd.C_drewN ?_ _) | (with_reducible refine Kd.C_drew ?_))); (case side2 => exact HC0.out); rintro e w15 ⟨v146, rfl, ho0, hb⟩; refine ⟨_, rfl, ?_⟩; have n0_ := Aside0.mk (Kd.R_elder' (by (with_reducible repeat (first | apply Kd.R_alloc | apply Kd.R_drewN | apply Kd.R_drew)); exact HO_5.out) (Kd.R_base ho0) hb); have n1_ := Aside0.mk (Kd.R_elder' (by (with_reducible repeat (first | apply Kd.R_alloc | apply Kd.R_drewN | apply Kd.R_drew)); exact HO_6.out) (Kd.R_base ho0) hb); have n2_ := Aside0.mk (Kd.R_elder' (by (with_reducible repeat (first | apply Kd.R_alloc | apply Kd.R_drewN | apply Kd.R_drew)); exact HO_7.out) (Kd.R_base ho0) hb); have n3_ := Aside0.mk (Kd.R_lower (Kd.R_new' (Kd.R_new' (Kd.R_new' ho0 (Kd.R_lt (by (with_reducible repeat (first | apply Kd.R_alloc | apply Kd.R_drewN | apply Kd.R_drew)); exact HO_5.out))) (Kd.R_lt (by (with_reducible repeat (first | apply Kd.R_alloc | apply Kd.R_drewN | apply Kd.R_drew)); exact HO_6.out))) (Kd.R_lt (by (with_reducible repeat (first | apply Kd.R_alloc | apply Kd.R_drewN | apply Kd.R_drew)); exact HO_7.out))) (below_size (by repeat (first | exact HB.out | apply below_alloc | apply pw_below_drewN | apply below_drew1)))); have n4_ := Aside0.mk (below_step (by repeat (first | exact HB.out | apply below_alloc | apply pw_below_drewN | apply below_drew1)) hb); clear HO_5; clear HO_6; clear HO_7; clear HB; have HO_5 := n0_; have HO_6 := n1_; have HO_7 := n2_; have HO147 := n3_; have HB := n4_; clear n0_ n1_ n2_ n3_ n4_; (try clear hb); (try clear hb2); (try clear hk); (try clear hi); (try clear ho0)))
                     go_roundg k1
                     case measure => have := HK1.out; omega
                     case rel => exact ⟨(t145), (x6_1), (x7_1), (wrap64 (x8_1 + 1)), (x9_1), (wrap64 (x10_1 + 1)), (by first | rfl | (simp; done) | (simp [*]; done)), (by first | rfl | (simp; done) | (simp [*]; done)), (by first | rfl | (simp; done) | (simp [*]; done)), H', ⟨by have := HK1.out; omega⟩, ⟨by (with_reducible repeat (first | apply Kd.R_alloc | apply Kd.R_drewN | apply Kd.R_drew)); exact Kd.R_mono HO147.out (fun _ hk => ⟨hk.1.2, hk.2⟩)⟩, ⟨by (with_reducible repeat (first | apply Kd.R_alloc | apply Kd.R_drewN | apply Kd.R_drew)); exact Kd.R_mono HO_6.out (fun _ hk => ⟨hk.2, hk.1.2⟩)⟩, ⟨by (with_reducible repeat (first | apply Kd.R_alloc | apply Kd.R_drewN | apply Kd.R_drew)); exact Kd.R_mono HO_7.out (fun _ hk => ⟨hk.2, hk.1.2⟩)⟩, ⟨by repeat (first | exact HB.out | apply below_alloc | apply pw_below_drewN | apply below_drew1)⟩⟩
                   · rw [if_neg c13] at H
                     have c13b0 : (x8_1 == 0) = false := beq_eq_false_iff_ne.mpr c13
                     have c13b1 : (x8_1 != 0) = true := bne_iff_ne.mpr c13
                     replace H := Option.bind_eq_some_iff.mp H
                     obtain ⟨t148, A160, H⟩ := H
                     replace H : (if x6_1.length + t148.length < 8796093022208 then (purflingref06_Rows.l0 k1 l0 a1 x5_1 (x6_1 ++ t148) x7_1 (wrap64 (x8_1 + 1)) x9_1 (wrap64 (x10_1 + 1))) else (none)) = some r := H
                     have A16 := Aside0.mk A160
                     clear A160
                     by_cases c17 : x6_1.length + t148.length < 8796093022208
                     · rw [if_pos c17] at H
                       have LMc17 := Aside0.mk c17
                       clear c17
                       obtain ⟨y151, hy151⟩ : ∃ y_ : List (S35), y_ = (x6_1 ++ t148) := ⟨_, rfl⟩
                       replace H : (purflingref06_Rows.l0 k1 l0 a1 x5_1 y151 x7_1 (wrap64 (x8_1 + 1)) x9_1 (wrap64 (x10_1 + 1))) = some r := by first | (rw [hy151]; with_reducible exact H) | (have H2_ := (Option.bind_some _ _).symm.trans H; rw [hy151]; with_reducible exact H2_) | (have H2_ := (Option.bind_some _ _).symm.trans H; with_reducible exact H2_) | with_reducible exact H | (rw [hy151]; exact H) | exact H
                       have Ny151 := Aside0.mk hy151
                       clear hy151
                       have H' := Aside0.mk H
                       clear H
                       have p132 : 0 ≤ (a1 : Int) := of_decide_eq_true (by first | (with_reducible assumption) | assumption)
                       have q132 : a1 < (l0.length : Int) := of_decide_eq_true (by first | (with_reducible assumption) | assumption)
                       obtain ⟨ad132, A132_1, c132_1, A132_31, c132_31, e132, hx132_0, hx132_1, -, -, -, -, -, -, -, -, -, -, -, -, -, -, -, -, -, -, -, -, hx132_22, -, -, -, -, -, -, -, -, hx132_31, -, -, hl132_1, hi132_1, hl132_31, hi132_31⟩ := at_T48 HR0.out a1 p132 q132
                       cases e132
                       replace hx132_0 := (HB.out.cell (World.block_lt_of_cell? w _ hx132_0)).trans hx132_0
                       replace hx132_1 := (HB.out.cell (World.block_lt_of_cell? w _ hx132_1)).trans hx132_1
                       replace hx132_22 := (HB.out.cell (World.block_lt_of_cell? w _ hx132_22)).trans hx132_22
                       replace hx132_31 := (HB.out.cell (World.block_lt_of_cell? w _ hx132_31)).trans hx132_31
                       have HR132_1 := Aside0.mk hi132_1
                       have HC132_1 := Aside0.mk hl132_1
                       clear hi132_1 hl132_1
                       have HR132_31 := Aside0.mk hi132_31
                       have HC132_31 := Aside0.mk hl132_31
                       clear hi132_31 hl132_31
                       replace p132 := eq_true p132
                       replace q132 := eq_true q132
                       have p139 : 0 ≤ (a1 : Int) := of_decide_eq_true (by first | (with_reducible assumption) | assumption)
                       have q139 : a1 < (l0.length : Int) := of_decide_eq_true (by first | (with_reducible assumption) | assumption)
                       obtain ⟨ad139, A139_1, c139_1, A139_31, c139_31, e139, hx139_0, hx139_1, -, -, -, -, -, -, -, -, -, -, -, -, -, -, -, -, -, -, -, -, hx139_22, -, -, -, -, -, -, -, -, hx139_31, -, -, hl139_1, hi139_1, hl139_31, hi139_31⟩ := at_T48 HR0.out a1 p139 q139
                       obtain rfl : ad132 = ad139 := (by injection e139)
                       replace hx139_0 := (HB.out.cell (World.block_lt_of_cell? w _ hx139_0)).trans hx139_0
                       replace hx139_1 := (HB.out.cell (World.block_lt_of_cell? w _ hx139_1)).trans hx139_1
                       replace hx139_22 := (HB.out.cell (World.block_lt_of_cell? w _ hx139_22)).trans hx139_22
                       replace hx139_31 := (HB.out.cell (World.block_lt_of_cell? w _ hx139_31)).trans hx139_31
                       have HR139_1 := Aside0.mk hi139_1
                       have HC139_1 := Aside0.mk hl139_1
                       clear hi139_1 hl139_1
                       have HR139_31 := Aside0.mk hi139_31
                       have HC139_31 := Aside0.mk hl139_31
                       clear hi139_31 hl139_31
                       replace p139 := eq_true p139
                       replace q139 := eq_true q139
                       have ea_ := Option.some.inj (hx132_1.symm.trans hx139_1)
                       injection ea_ with ea_ en_ ec_
                       subst ea_
                       subst ec_
                       clear en_
                       have ea_ := Option.some.inj (hx132_31.symm.trans hx139_31)
                       injection ea_ with ea_ en_ ec_
                       subst ea_
                       subst ec_
                       clear en_
                       have p140 : 0 ≤ (x10_1 : Int) := of_decide_eq_true (by first | (with_reducible assumption) | assumption)
                       have q140 : x10_1 < (((rd_T48 l0 a1).f1).length : Int) := of_decide_eq_true (by first | (with_reducible assumption) | assumption)
                       obtain ⟨ad140, e140, hx140_0⟩ := Kd.at_int HR139_1.out x10_1 p140 q140
                       cases e140
                       replace hx140_0 := (HB.out.cell (World.block_lt_of_cell? w _ hx140_0)).trans hx140_0
                       replace p140 := eq_true p140
                       replace q140 := eq_true q140
                       have p141 : 0 ≤ ((rd ((rd_T48 l0 a1).f1) x10_1) : Int) := of_decide_eq_true (by first | (with_reducible assumption) | assumption)
                       have q141 : (rd ((rd_T48 l0 a1).f1) x10_1) < (l0.length : Int) := of_decide_eq_true (by first | (with_reducible assumption) | assumption)
                       obtain ⟨ad141, A141_1, c141_1, A141_31, c141_31, e141, hx141_0, hx141_1, -, -, -, -, -, -, -, -, -, -, -, -, -, -, -, -, -, -, -, -, hx141_22, -, -, -, -, -, -, -, -, -, -, -, hl141_1, hi141_1, hl141_31, hi141_31⟩ := at_T48 HR0.out (rd ((rd_T48 l0 a1).f1) x10_1) p141 q141
                       obtain rfl : ad132 = ad141 := (by injection e141)
                       replace hx141_0 := (HB.out.cell (World.block_lt_of_cell? w _ hx141_0)).trans hx141_0
                       replace hx141_1 := (HB.out.cell (World.block_lt_of_cell? w _ hx141_1)).trans hx141_1
                       replace hx141_22 := (HB.out.cell (World.block_lt_of_cell? w _ hx141_22)).trans hx141_22
                       have HR141_1 := Aside0.mk hi141_1
                       have HC141_1 := Aside0.mk hl141_1
                       clear hi141_1 hl141_1
                       have HR141_31 := Aside0.mk hi141_31
                       have HC141_31 := Aside0.mk hl141_31
                       clear hi141_31 hl141_31
                       replace p141 := eq_true p141
                       replace q141 := eq_true q141
                       go_wp2_with (first | ((with_reducible refine gate_callee (f := 33) rfl ?_); refine goesL_ (some 52) rfl rfl Try.func33 (by kernel_rfl) rfl #[.slice (some ad132) l0.length c0, .int .i64 (rd ((rd_T48 l0 a1).f1) x10_1)] rfl (by (try simp only [List.map_toArray, List.map_cons, List.map_nil]); first | done | rfl) ?_; (with_reducible refine (purflingref06_group.calls k1 _ _ l0 (rd ((rd_T48 l0 a1).f1) x10_1) t148 _ ?side1 ?side2 A16.out).mono ?_); (case side1 => repeat (first | exact (Kd.C_below HR0.out HB.out) | (with_reducible refine Kd.C_alloc ?_ _) | (with_reducible refine Kd.C_drewN ?_ _) | (with_reducible refine Kd.C_drew ?_))); (case side2 => exact HC0.out); rintro e w18 ⟨v149, rfl, ho0, hb⟩; refine ⟨_, rfl, ?_⟩; have n0_ := Aside0.mk (Kd.R_elder' (by (with_reducible repeat (first | apply Kd.R_alloc | apply Kd.R_drewN | apply Kd.R_drew)); exact HO_5.out) (Kd.R_base ho0) hb); have n1_ := Aside0.mk (Kd.R_elder' (by (with_reducible repeat (first | apply Kd.R_alloc | apply Kd.R_drewN | apply Kd.R_drew)); exact HO_6.out) (Kd.R_base ho0) hb); have n2_ := Aside0.mk (Kd.R_elder' (by (with_reducible repeat (first | apply Kd.R_alloc | apply Kd.R_drewN | apply Kd.R_drew)); exact HO_7.out) (Kd.R_base ho0) hb); have n3_ := Aside0.mk (Kd.R_lower (Kd.R_new' (Kd.R_new' (Kd.R_new' ho0 (Kd.R_lt (by (with_reducible repeat (first | apply Kd.R_alloc | apply Kd.R_drewN | apply Kd.R_drew)); exact HO_5.out))) (Kd.R_lt (by (with_reducible repeat (first | apply Kd.R_alloc | apply Kd.R_drewN | apply Kd.R_drew)); exact HO_6.out))) (Kd.R_lt (by (with_reducible repeat (first | apply Kd.R_alloc | apply Kd.R_drewN | apply Kd.R_drew)); exact HO_7.out))) (below_size (by repeat (first | exact HB.out | apply below_alloc | apply pw_below_drewN | apply below_drew1)))); have n4_ := Aside0.mk (below_step (by repeat (first | exact HB.out | apply below_alloc | apply pw_below_drewN | apply below_drew1)) hb); clear HO_5; clear HO_6; clear HO_7; clear HB; have HO_5 := n0_; have HO_6 := n1_; have HO_7 := n2_; have HO150 := n3_; have HB := n4_; clear n0_ n1_ n2_ n3_ n4_; (try clear hb); (try clear hb2); (try clear hk); (try clear hi); (try clear ho0); obtain ⟨Ao20, co20, eo20⟩ := Kd.R_slice HO150.out; subst eo20) | ((with_reducible refine gate_builtin (b := .append) (xs := #[.tmp 49, .tmp 52]) rfl ?_); at_builtin; refine Kd.R_append_rows k35 (w0 := w) w.heap.size rfl (.tmp 49) (.tmp 52) 25 35 (.agg #[(.int .i64 0), (.int .i64 0)]) 16 rfl Try.underlying25 info35 rfl (by decide) (by omega) u6 x6_1 t148 _ _ _ (fun k_ => some k_ ≠ (u5 : Value).ownBlock ∧ some k_ ≠ (u7 : Value).ownBlock ∧ some k_ ≠ (.slice Ao20 t148.length co20 : Value).ownBlock) (fun _ => False) rfl rfl ?aO ?aR (fun _ _ h => h) (fun _ h => h.elim) ?aF ?aB ?aS ?aL ?_; (case aR => repeat (first | exact (Kd.R_reads' HO150.out).2.2 | (with_reducible refine Kd.C_alloc ?_ _) | (with_reducible refine Kd.C_drewN ?_ _) | (with_reducible refine Kd.C_drew ?_))); (case aB => exact (by repeat (first | exact HB.out | apply below_alloc | apply pw_below_drewN | apply below_drew1))); (case aF => exact (fun k_ hk => ⟨Kd.fresh' (Kd.R_lt (by (with_reducible repeat (first | apply Kd.R_alloc | apply Kd.R_drewN | apply Kd.R_drew)); exact HO_5.out)) k_ hk, Kd.fresh' (Kd.R_lt (by (with_reducible repeat (first | apply Kd.R_alloc | apply Kd.R_drewN | apply Kd.R_drew)); exact HO_7.out)) k_ hk, Kd.fresh' (Kd.R_lt (by (with_reducible repeat (first | apply Kd.R_alloc | apply Kd.R_drewN | apply Kd.R_drew)); exact HO150.out)) k_ hk⟩)); (case aO => exact (by (with_reducible repeat (first | apply Kd.R_alloc | apply Kd.R_drewN | apply Kd.R_drew)); exact Kd.R_mono HO_6.out (fun _ hk => ⟨hk.1.1, ⟨hk.1.2, hk.2⟩⟩))); (case aS => exact (below_size (by repeat (first | exact HB.out | apply below_alloc | apply pw_below_drewN | apply below_drew1)))); (case aL => have := LMc17.out; omega); intro v152 w19 ho hb hg hat; rw [← Ny151.out] at ho; have n0_ := Aside0.mk (Kd.R_after (ok := (fun k_ => some k_ ≠ (u7 : Value).ownBlock ∧ some k_ ≠ (.slice Ao20 t148.length co20 : Value).ownBlock)) (by (with_reducible repeat (first | apply Kd.R_alloc | apply Kd.R_drewN | apply Kd.R_drew)); exact Kd.R_mono HO_5.out (fun _ hk => ⟨⟨hk.1.2, hk.2⟩, hk.1.1⟩)) hg hat); have n1_ := Aside0.mk (Kd.R_after (ok := (fun k_ => some k_ ≠ (u5 : Value).ownBlock ∧ some k_ ≠ (.slice Ao20 t148.length co20 : Value).ownBlock)) (by (with_reducible repeat (first | apply Kd.R_alloc | apply Kd.R_drewN | apply Kd.R_drew)); exact Kd.R_mono HO_7.out (fun _ hk => ⟨⟨hk.1.1, hk.2⟩, hk.1.2⟩)) hg hat); have n2_ := Aside0.mk (Kd.R_after (ok := (fun k_ => some k_ ≠ (u5 : Value).ownBlock ∧ some k_ ≠ (u7 : Value).ownBlock)) (by (with_reducible repeat (first | apply Kd.R_alloc | apply Kd.R_drewN | apply Kd.R_drew)); exact Kd.R_mono HO150.out (fun _ hk => ⟨⟨hk.1.1.2, hk.2⟩, hk.1.2⟩)) hg hat); have n3_ := Aside0.mk (hb); have n4_ := Aside0.mk (ho); clear HO_5; clear HO_7; clear HO150; clear HB; clear HO_6; have HO_5 := n0_; have HO_7 := n1_; have HO150 := n2_; have HB := n3_; have HO153 := n4_; clear n0_ n1_ n2_ n3_ n4_; clear ho hb hg hat))
                       go_roundg k1
                       case measure => have := HK1.out; omega
                       case rel => exact ⟨(x5_1), (y151), (x7_1), (wrap64 (x8_1 + 1)), (x9_1), (wrap64 (x10_1 + 1)), (by first | rfl | (simp; done) | (simp [*]; done)), (by first | rfl | (simp; done) | (simp [*]; done)), (by first | rfl | (simp; done) | (simp [*]; done)), H', ⟨by have := HK1.out; omega⟩, ⟨by (with_reducible repeat (first | apply Kd.R_alloc | apply Kd.R_drewN | apply Kd.R_drew)); exact Kd.R_mono HO_5.out (fun _ hk => ⟨hk.2, hk.1.1⟩)⟩, ⟨by (with_reducible repeat (first | apply Kd.R_alloc | apply Kd.R_drewN | apply Kd.R_drew)); exact Kd.R_mono HO153.out (fun _ hk => ⟨hk.1, hk.2.1⟩)⟩, ⟨by (with_reducible repeat (first | apply Kd.R_alloc | apply Kd.R_drewN | apply Kd.R_drew)); exact Kd.R_mono HO_7.out (fun _ hk => ⟨hk.1.1, hk.2⟩)⟩, ⟨by repeat (first | exact HB.out | apply below_alloc | apply pw_below_drewN | apply below_drew1)⟩⟩
                     · rw [if_neg c17] at H
                       exact absurd H (by simp)
                 · rw [if_neg c12] at H
                   have c12b0 : (((rd_T48 l0 (rd ((rd_T48 l0 a1).f1) x10_1)).f0) == 6) = false := beq_eq_false_iff_ne.mpr c12
                   have c12b1 : (((rd_T48 l0 (rd ((rd_T48 l0 a1).f1) x10_1)).f0) != 6) = true := bne_iff_ne.mpr c12
                   by_cases c21 : ((rd_T48 l0 (rd ((rd_T48 l0 a1).f1) x10_1)).f0) = 8
                   · rw [if_pos c21] at H
                     have c21b0 : (((rd_T48 l0 (rd ((rd_T48 l0 a1).f1) x10_1)).f0) == 8) = true := beq_iff_eq.mpr c21
                     have c21b1 : (((rd_T48 l0 (rd ((rd_T48 l0 a1).f1) x10_1)).f0) != 8) = false := bne_eq_false_iff_eq.mpr c21
                     clear c21
                     by_cases c22 : x9_1 = 0
                     · rw [if_pos c22] at H
                       have c22b0 : (x9_1 == 0) = true := beq_iff_eq.mpr c22
                       have c22b1 : (x9_1 != 0) = false := bne_eq_false_iff_eq.mpr c22
                       clear c22
                       replace H := Option.bind_eq_some_iff.mp H
                       obtain ⟨t154, A230, H⟩ := H
                       replace H : (purflingref06_Rows.l0 k1 l0 a1 x5_1 x6_1 t154 x8_1 (wrap64 (x9_1 + 1)) (wrap64 (x10_1 + 1))) = some r := H
                       have A23 := Aside0.mk A230
                       clear A230
                       have H' := Aside0.mk H
                       clear H
                       have p132 : 0 ≤ (a1 : Int) := of_decide_eq_true (by first | (with_reducible assumption) | assumption)
                       have q132 : a1 < (l0.length : Int) := of_decide_eq_true (by first | (with_reducible assumption) | assumption)
                       obtain ⟨ad132, A132_1, c132_1, A132_31, c132_31, e132, hx132_0, hx132_1, -, -, -, -, -, -, -, -, -, -, -, -, -, -, -, -, -, -, -, -, hx132_22, -, -, -, -, -, -, -, -, hx132_31, -, -, hl132_1, hi132_1, hl132_31, hi132_31⟩ := at_T48 HR0.out a1 p132 q132
                       cases e132
                       replace hx132_0 := (HB.out.cell (World.block_lt_of_cell? w _ hx132_0)).trans hx132_0
                       replace hx132_1 := (HB.out.cell (World.block_lt_of_cell? w _ hx132_1)).trans hx132_1
                       replace hx132_22 := (HB.out.cell (World.block_lt_of_cell? w _ hx132_22)).trans hx132_22
                       replace hx132_31 := (HB.out.cell (World.block_lt_of_cell? w _ hx132_31)).trans hx132_31
                       have HR132_1 := Aside0.mk hi132_1
                       have HC132_1 := Aside0.mk hl132_1
                       clear hi132_1 hl132_1
                       have HR132_31 := Aside0.mk hi132_31
                       have HC132_31 := Aside0.mk hl132_31
                       clear hi132_31 hl132_31
                       replace p132 := eq_true p132
                       replace q132 := eq_true q132
                       have p139 : 0 ≤ (a1 : Int) := of_decide_eq_true (by first | (with_reducible assumption) | assumption)
                       have q139 : a1 < (l0.length : Int) := of_decide_eq_true (by first | (with_reducible assumption) | assumption)
                       obtain ⟨ad139, A139_1, c139_1, A139_31, c139_31, e139, hx139_0, hx139_1, -, -, -, -, -, -, -, -, -, -, -, -, -, -, -, -, -, -, -, -, hx139_22, -, -, -, -, -, -, -, -, hx139_31, -, -, hl139_1, hi139_1, hl139_31, hi139_31⟩ := at_T48 HR0.out a1 p139 q139
                       obtain rfl : ad132 = ad139 := (by injection e139)
                       replace hx139_0 := (HB.out.cell (World.block_lt_of_cell? w _ hx139_0)).trans hx139_0
                       replace hx139_1 := (HB.out.cell (World.block_lt_of_cell? w _ hx139_1)).trans hx139_1
                       replace hx139_22 := (HB.out.cell (World.block_lt_of_cell? w _ hx139_22)).trans hx139_22
                       replace hx139_31 := (HB.out.cell (World.block_lt_of_cell? w _ hx139_31)).trans hx139_31
                       have HR139_1 := Aside0.mk hi139_1
                       have HC139_1 := Aside0.mk hl139_1
                       clear hi139_1 hl139_1
                       have HR139_31 := Aside0.mk hi139_31
                       have HC139_31 := Aside0.mk hl139_31
                       clear hi139_31 hl139_31
                       replace p139 := eq_true p139
                       replace q139 := eq_true q139
                       have ea_ := Option.some.inj (hx132_1.symm.trans hx139_1)
                       injection ea_ with ea_ en_ ec_
                       subst ea_
                       subst ec_
                       clear en_
                       have ea_ := Option.some.inj (hx132_31.symm.trans hx139_31)
                       injection ea_ with ea_ en_ ec_
                       subst ea_
                       subst ec_
                       clear en_
                       have p140 : 0 ≤ (x10_1 : Int) := of_decide_eq_true (by first | (with_reducible assumption) | assumption)
                       have q140 : x10_1 < (((rd_T48 l0 a1).f1).length : Int) := of_decide_eq_true (by first | (with_reducible assumption) | assumption)
                       obtain ⟨ad140, e140, hx140_0⟩ := Kd.at_int HR139_1.out x10_1 p140 q140
                       cases e140
                       replace hx140_0 := (HB.out.cell (World.block_lt_of_cell? w _ hx140_0)).trans hx140_0
                       replace p140 := eq_true p140
                       replace q140 := eq_true q140
                       have p141 : 0 ≤ ((rd ((rd_T48 l0 a1).f1) x10_1) : Int) := of_decide_eq_true (by first | (with_reducible assumption) | assumption)
                       have q141 : (rd ((rd_T48 l0 a1).f1) x10_1) < (l0.length : Int) := of_decide_eq_true (by first | (with_reducible assumption) | assumption)
                       obtain ⟨ad141, A141_1, c141_1, A141_31, c141_31, e141, hx141_0, hx141_1, -, -, -, -, -, -, -, -, -, -, -, -, -, -, -, -, -, -, -, -, hx141_22, -, -, -, -, -, -, -, -, -, -, -, hl141_1, hi141_1, hl141_31, hi141_31⟩ := at_T48 HR0.out (rd ((rd_T48 l0 a1).f1) x10_1) p141 q141
                       obtain rfl : ad132 = ad141 := (by injection e141)
                       replace hx141_0 := (HB.out.cell (World.block_lt_of_cell? w _ hx141_0)).trans hx141_0
                       replace hx141_1 := (HB.out.cell (World.block_lt_of_cell? w _ hx141_1)).trans hx141_1
                       replace hx141_22 := (HB.out.cell (World.block_lt_of_cell? w _ hx141_22)).trans hx141_22
                       have HR141_1 := Aside0.mk hi141_1
                       have HC141_1 := Aside0.mk hl141_1
                       clear hi141_1 hl141_1
                       have HR141_31 := Aside0.mk hi141_31
                       have HC141_31 := Aside0.mk hl141_31
                       clear hi141_31 hl141_31
                       replace p141 := eq_true p141
                       replace q141 := eq_true q141
                       go_wp2_with (first | ((with_reducible refine gate_callee (f := 33) rfl ?_); refine goesL_ (some 62) rfl rfl Try.func33 (by kernel_rfl) rfl #[.slice (some ad132) l0.length c0, .int .i64 (rd ((rd_T48 l0 a1).f1) x10_1)] rfl (by (try simp only [List.map_toArray, List.map_cons, List.map_nil]); first | done | rfl) ?_; (with_reducible refine (purflingref06_group.calls k1 _ _ l0 (rd ((rd_T48 l0 a1).f1) x10_1) t154 _ ?side1 ?side2 A23.out).mono ?_); (case side1 => repeat (first | exact (Kd.C_below HR0.out HB.out) | (with_reducible refine Kd.C_alloc ?_ _) | (with_reducible refine Kd.C_drewN ?_ _) | (with_reducible refine Kd.C_drew ?_))); (case side2 => exact HC0.out); rintro e w24 ⟨v155, rfl, ho0, hb⟩; refine ⟨_, rfl, ?_⟩; have n0_ := Aside0.mk (Kd.R_elder' (by (with_reducible repeat (first | apply Kd.R_alloc | apply Kd.R_drewN | apply Kd.R_drew)); exact HO_5.out) (Kd.R_base ho0) hb); have n1_ := Aside0.mk (Kd.R_elder' (by (with_reducible repeat (first | apply Kd.R_alloc | apply Kd.R_drewN | apply Kd.R_drew)); exact HO_6.out) (Kd.R_base ho0) hb); have n2_ := Aside0.mk (Kd.R_elder' (by (with_reducible repeat (first | apply Kd.R_alloc | apply Kd.R_drewN | apply Kd.R_drew)); exact HO_7.out) (Kd.R_base ho0) hb); have n3_ := Aside0.mk (Kd.R_lower (Kd.R_new' (Kd.R_new' (Kd.R_new' ho0 (Kd.R_lt (by (with_reducible repeat (first | apply Kd.R_alloc | apply Kd.R_drewN | apply Kd.R_drew)); exact HO_5.out))) (Kd.R_lt (by (with_reducible repeat (first | apply Kd.R_alloc | apply Kd.R_drewN | apply Kd.R_drew)); exact HO_6.out))) (Kd.R_lt (by (with_reducible repeat (first | apply Kd.R_alloc | apply Kd.R_drewN | apply Kd.R_drew)); exact HO_7.out))) (below_size (by repeat (first | exact HB.out | apply below_alloc | apply pw_below_drewN | apply below_drew1)))); have n4_ := Aside0.mk (below_step (by repeat (first | exact HB.out | apply below_alloc | apply pw_below_drewN | apply below_drew1)) hb); clear HO_5; clear HO_6; clear HO_7; clear HB; have HO_5 := n0_; have HO_6 := n1_; have HO_7 := n2_; have HO156 := n3_; have HB := n4_; clear n0_ n1_ n2_ n3_ n4_; (try clear hb); (try clear hb2); (try clear hk); (try clear hi); (try clear ho0)))
                       go_roundg k1
                       case measure => have := HK1.out; omega
                       case rel => exact ⟨(x5_1), (x6_1), (t154), (x8_1), (wrap64 (x9_1 + 1)), (wrap64 (x10_1 + 1)), (by first | rfl | (simp; done) | (simp [*]; done)), (by first | rfl | (simp; done) | (simp [*]; done)), (by first | rfl | (simp; done) | (simp [*]; done)), H', ⟨by have := HK1.out; omega⟩, ⟨by (with_reducible repeat (first | apply Kd.R_alloc | apply Kd.R_drewN | apply Kd.R_drew)); exact Kd.R_mono HO_5.out (fun _ hk => ⟨hk.1.1, hk.2⟩)⟩, ⟨by (with_reducible repeat (first | apply Kd.R_alloc | apply Kd.R_drewN | apply Kd.R_drew)); exact Kd.R_mono HO_6.out (fun _ hk => ⟨hk.1.1, hk.2⟩)⟩, ⟨by (with_reducible repeat (first | apply Kd.R_alloc | apply Kd.R_drewN | apply Kd.R_drew)); exact Kd.R_mono HO156.out (fun _ hk => ⟨hk.1.1.2, hk.1.2⟩)⟩, ⟨by repeat (first | exact HB.out | apply below_alloc | apply pw_below_drewN | apply below_drew1)⟩⟩
                     · rw [if_neg c22] at H
                       have c22b0 : (x9_1 == 0) = false := beq_eq_false_iff_ne.mpr c22
                       have c22b1 : (x9_1 != 0) = true := bne_iff_ne.mpr c22
                       replace H := Option.bind_eq_some_iff.mp H
                       obtain ⟨t157, A250, H⟩ := H
                       replace H : (if x6_1.length + t157.length < 8796093022208 then (purflingref06_Rows.l0 k1 l0 a1 x5_1 (x6_1 ++ t157) x7_1 x8_1 (wrap64 (x9_1 + 1)) (wrap64 (x10_1 + 1))) else (none)) = some r := H
                       have A25 := Aside0.mk A250
                       clear A250
                       by_cases c26 : x6_1.length + t157.length < 8796093022208
                       · rw [if_pos c26] at H
                         have LMc26 := Aside0.mk c26
                         clear c26
                         obtain ⟨y160, hy160⟩ : ∃ y_ : List (S35), y_ = (x6_1 ++ t157) := ⟨_, rfl⟩
                         replace H : (purflingref06_Rows.l0 k1 l0 a1 x5_1 y160 x7_1 x8_1 (wrap64 (x9_1 + 1)) (wrap64 (x10_1 + 1))) = some r := by first | (rw [hy160]; with_reducible exact H) | (have H2_ := (Option.bind_some _ _).symm.trans H; rw [hy160]; with_reducible exact H2_) | (have H2_ := (Option.bind_some _ _).symm.trans H; with_reducible exact H2_) | with_reducible exact H | (rw [hy160]; exact H) | exact H
                         have Ny160 := Aside0.mk hy160
                         clear hy160
                         have H' := Aside0.mk H
                         clear H
                         have p132 : 0 ≤ (a1 : Int) := of_decide_eq_true (by first | (with_reducible assumption) | assumption)
                         have q132 : a1 < (l0.length : Int) := of_decide_eq_true (by first | (with_reducible assumption) | assumption)
                         obtain ⟨ad132, A132_1, c132_1, A132_31, c132_31, e132, hx132_0, hx132_1, -, -, -, -, -, -, -, -, -, -, -, -, -, -, -, -, -, -, -, -, hx132_22, -, -, -, -, -, -, -, -, hx132_31, -, -, hl132_1, hi132_1, hl132_31, hi132_31⟩ := at_T48 HR0.out a1 p132 q132
                         cases e132
                         replace hx132_0 := (HB.out.cell (World.block_lt_of_cell? w _ hx132_0)).trans hx132_0
                         replace hx132_1 := (HB.out.cell (World.block_lt_of_cell? w _ hx132_1)).trans hx132_1
                         replace hx132_22 := (HB.out.cell (World.block_lt_of_cell? w _ hx132_22)).trans hx132_22
                         replace hx132_31 := (HB.out.cell (World.block_lt_of_cell? w _ hx132_31)).trans hx132_31
                         have HR132_1 := Aside0.mk hi132_1
                         have HC132_1 := Aside0.mk hl132_1
                         clear hi132_1 hl132_1
                         have HR132_31 := Aside0.mk hi132_31
                         have HC132_31 := Aside0.mk hl132_31
                         clear hi132_31 hl132_31
                         replace p132 := eq_true p132
                         replace q132 := eq_true q132
                         have p139 : 0 ≤ (a1 : Int) := of_decide_eq_true (by first | (with_reducible assumption) | assumption)
                         have q139 : a1 < (l0.length : Int) := of_decide_eq_true (by first | (with_reducible assumption) | assumption)
                         obtain ⟨ad139, A139_1, c139_1, A139_31, c139_31, e139, hx139_0, hx139_1, -, -, -, -, -, -, -, -, -, -, -, -, -, -, -, -, -, -, -, -, hx139_22, -, -, -, -, -, -, -, -, hx139_31, -, -, hl139_1, hi139_1, hl139_31, hi139_31⟩ := at_T48 HR0.out a1 p139 q139
                         obtain rfl : ad132 = ad139 := (by injection e139)
                         replace hx139_0 := (HB.out.cell (World.block_lt_of_cell? w _ hx139_0)).trans hx139_0
                         replace hx139_1 := (HB.out.cell (World.block_lt_of_cell? w _ hx139_1)).trans hx139_1
                         replace hx139_22 := (HB.out.cell (World.block_lt_of_cell? w _ hx139_22)).trans hx139_22
                         replace hx139_31 := (HB.out.cell (World.block_lt_of_cell? w _ hx139_31)).trans hx139_31
                         have HR139_1 := Aside0.mk hi139_1
                         have HC139_1 := Aside0.mk hl139_1
                         clear hi139_1 hl139_1
                         have HR139_31 := Aside0.mk hi139_31
                         have HC139_31 := Aside0.mk hl139_31
                         clear hi139_31 hl139_31
                         replace p139 := eq_true p139
                         replace q139 := eq_true q139
                         have ea_ := Option.some.inj (hx132_1.symm.trans hx139_1)
                         injection ea_ with ea_ en_ ec_
                         subst ea_
                         subst ec_
                         clear en_
                         have ea_ := Option.some.inj (hx132_31.symm.trans hx139_31)
                         injection ea_ with ea_ en_ ec_
                         subst ea_
                         subst ec_
                         clear en_
                         have p140 : 0 ≤ (x10_1 : Int) := of_decide_eq_true (by first | (with_reducible assumption) | assumption)
                         have q140 : x10_1 < (((rd_T48 l0 a1).f1).length : Int) := of_decide_eq_true (by first | (with_reducible assumption) | assumption)
                         obtain ⟨ad140, e140, hx140_0⟩ := Kd.at_int HR139_1.out x10_1 p140 q140
                         cases e140
                         replace hx140_0 := (HB.out.cell (World.block_lt_of_cell? w _ hx140_0)).trans hx140_0
                         replace p140 := eq_true p140
                         replace q140 := eq_true q140
                         have p141 : 0 ≤ ((rd ((rd_T48 l0 a1).f1) x10_1) : Int) := of_decide_eq_true (by first | (with_reducible assumption) | assumption)
                         have q141 : (rd ((rd_T48 l0 a1).f1) x10_1) < (l0.length : Int) := of_decide_eq_true (by first | (with_reducible assumption) | assumption)
                         obtain ⟨ad141, A141_1, c141_1, A141_31, c141_31, e141, hx141_0, hx141_1, -, -, -, -, -, -, -, -, -, -, -, -, -, -, -, -, -, -, -, -, hx141_22, -, -, -, -, -, -, -, -, -, -, -, hl141_1, hi141_1, hl141_31, hi141_31⟩ := at_T48 HR0.out (rd ((rd_T48 l0 a1).f1) x10_1) p141 q141
                         obtain rfl : ad132 = ad141 := (by injection e141)
                         replace hx141_0 := (HB.out.cell (World.block_lt_of_cell? w _ hx141_0)).trans hx141_0
                         replace hx141_1 := (HB.out.cell (World.block_lt_of_cell? w _ hx141_1)).trans hx141_1
                         replace hx141_22 := (HB.out.cell (World.block_lt_of_cell? w _ hx141_22)).trans hx141_22
                         have HR141_1 := Aside0.mk hi141_1
                         have HC141_1 := Aside0.mk hl141_1
                         clear hi141_1 hl141_1
                         have HR141_31 := Aside0.mk hi141_31
                         have HC141_31 := Aside0.mk hl141_31
                         clear hi141_31 hl141_31
                         replace p141 := eq_true p141
                         replace q141 := eq_true q141
                         go_wp2_with (first | ((with_reducible refine gate_callee (f := 33) rfl ?_); refine goesL_ (some 66) rfl rfl Try.func33 (by kernel_rfl) rfl #[.slice (some ad132) l0.length c0, .int .i64 (rd ((rd_T48 l0 a1).f1) x10_1)] rfl (by (try simp only [List.map_toArray, List.map_cons, List.map_nil]); first | done | rfl) ?_; (with_reducible refine (purflingref06_group.calls k1 _ _ l0 (rd ((rd_T48 l0 a1).f1) x10_1) t157 _ ?side1 ?side2 A25.out).mono ?_); (case side1 => repeat (first | exact (Kd.C_below HR0.out HB.out) | (with_reducible refine Kd.C_alloc ?_ _) | (with_reducible refine Kd.C_drewN ?_ _) | (with_reducible refine Kd.C_drew ?_))); (case side2 => exact HC0.out); rintro e w27 ⟨v158, rfl, ho0, hb⟩; refine ⟨_, rfl, ?_⟩; have n0_ := Aside0.mk (Kd.R_elder' (by (with_reducible repeat (first | apply Kd.R_alloc | apply Kd.R_drewN | apply Kd.R_drew)); exact HO_5.out) (Kd.R_base ho0) hb); have n1_ := Aside0.mk (Kd.R_elder' (by (with_reducible repeat (first | apply Kd.R_alloc | apply Kd.R_drewN | apply Kd.R_drew)); exact HO_6.out) (Kd.R_base ho0) hb); have n2_ := Aside0.mk (Kd.R_elder' (by (with_reducible repeat (first | apply Kd.R_alloc | apply Kd.R_drewN | apply Kd.R_drew)); exact HO_7.out) (Kd.R_base ho0) hb); have n3_ := Aside0.mk (Kd.R_lower (Kd.R_new' (Kd.R_new' (Kd.R_new' ho0 (Kd.R_lt (by (with_reducible repeat (first | apply Kd.R_alloc | apply Kd.R_drewN | apply Kd.R_drew)); exact HO_5.out))) (Kd.R_lt (by (with_reducible repeat (first | apply Kd.R_alloc | apply Kd.R_drewN | apply Kd.R_drew)); exact HO_6.out))) (Kd.R_lt (by (with_reducible repeat (first | apply Kd.R_alloc | apply Kd.R_drewN | apply Kd.R_drew)); exact HO_7.out))) (below_size (by repeat (first | exact HB.out | apply below_alloc | apply pw_below_drewN | apply below_drew1)))); have n4_ := Aside0.mk (below_step (by repeat (first | exact HB.out | apply below_alloc | apply pw_below_drewN | apply below_drew1)) hb); clear HO_5; clear HO_6; clear HO_7; clear HB; have HO_5 := n0_; have HO_6 := n1_; have HO_7 := n2_; have HO159 := n3_; have HB := n4_; clear n0_ n1_ n2_ n3_ n4_; (try clear hb); (try clear hb2); (try clear hk); (try clear hi); (try clear ho0); obtain ⟨Ao29, co29, eo29⟩ := Kd.R_slice HO159.out; subst eo29) | ((with_reducible refine gate_builtin (b := .append) (xs := #[.tmp 63, .tmp 66]) rfl ?_); at_builtin; refine Kd.R_append_rows k35 (w0 := w) w.heap.size rfl (.tmp 63) (.tmp 66) 25 35 (.agg #[(.int .i64 0), (.int .i64 0)]) 16 rfl Try.underlying25 info35 rfl (by decide) (by omega) u6 x6_1 t157 _ _ _ (fun k_ => some k_ ≠ (u5 : Value).ownBlock ∧ some k_ ≠ (u7 : Value).ownBlock ∧ some k_ ≠ (.slice Ao29 t157.length co29 : Value).ownBlock) (fun _ => False) rfl rfl ?aO ?aR (fun _ _ h => h) (fun _ h => h.elim) ?aF ?aB ?aS ?aL ?_; (case aR => repeat (first | exact (Kd.R_reads' HO159.out).2.2 | (with_reducible refine Kd.C_alloc ?_ _) | (with_reducible refine Kd.C_drewN ?_ _) | (with_reducible refine Kd.C_drew ?_))); (case aB => exact (by repeat (first | exact HB.out | apply below_alloc | apply pw_below_drewN | apply below_drew1))); (case aF => exact (fun k_ hk => ⟨Kd.fresh' (Kd.R_lt (by (with_reducible repeat (first | apply Kd.R_alloc | apply Kd.R_drewN | apply Kd.R_drew)); exact HO_5.out)) k_ hk, Kd.fresh' (Kd.R_lt (by (with_reducible repeat (first | apply Kd.R_alloc | apply Kd.R_drewN | apply Kd.R_drew)); exact HO_7.out)) k_ hk, Kd.fresh' (Kd.R_lt (by (with_reducible repeat (first | apply Kd.R_alloc | apply Kd.R_drewN | apply Kd.R_drew)); exact HO159.out)) k_ hk⟩)); (case aO => exact (by (with_reducible repeat (first | apply Kd.R_alloc | apply Kd.R_drewN | apply Kd.R_drew)); exact Kd.R_mono HO_6.out (fun _ hk => ⟨hk.1.1, ⟨hk.1.2, hk.2⟩⟩))); (case aS => exact (below_size (by repeat (first | exact HB.out | apply below_alloc | apply pw_below_drewN | apply below_drew1)))); (case aL => have := LMc26.out; omega); intro v161 w28 ho hb hg hat; rw [← Ny160.out] at ho; have n0_ := Aside0.mk (Kd.R_after (ok := (fun k_ => some k_ ≠ (u7 : Value).ownBlock ∧ some k_ ≠ (.slice Ao29 t157.length co29 : Value).ownBlock)) (by (with_reducible repeat (first | apply Kd.R_alloc | apply Kd.R_drewN | apply Kd.R_drew)); exact Kd.R_mono HO_5.out (fun _ hk => ⟨⟨hk.1.2, hk.2⟩, hk.1.1⟩)) hg hat); have n1_ := Aside0.mk (Kd.R_after (ok := (fun k_ => some k_ ≠ (u5 : Value).ownBlock ∧ some k_ ≠ (.slice Ao29 t157.length co29 : Value).ownBlock)) (by (with_reducible repeat (first | apply Kd.R_alloc | apply Kd.R_drewN | apply Kd.R_drew)); exact Kd.R_mono HO_7.out (fun _ hk => ⟨⟨hk.1.1, hk.2⟩, hk.1.2⟩)) hg hat); have n2_ := Aside0.mk (Kd.R_after (ok := (fun k_ => some k_ ≠ (u5 : Value).ownBlock ∧ some k_ ≠ (u7 : Value).ownBlock)) (by (with_reducible repeat (first | apply Kd.R_alloc | apply Kd.R_drewN | apply Kd.R_drew)); exact Kd.R_mono HO159.out (fun _ hk => ⟨⟨hk.1.1.2, hk.2⟩, hk.1.2⟩)) hg hat); have n3_ := Aside0.mk (hb); have n4_ := Aside0.mk (ho); clear HO_5; clear HO_7; clear HO159; clear HB; clear HO_6; have HO_5 := n0_; have HO_7 := n1_; have HO159 := n2_; have HB := n3_; have HO162 := n4_; clear n0_ n1_ n2_ n3_ n4_; clear ho hb hg hat))
                         go_roundg k1
                         case measure => have := HK1.out; omega
                         case rel => exact ⟨(x5_1), (y160), (x7_1), (x8_1), (wrap64 (x9_1 + 1)), (wrap64 (x10_1 + 1)), (by first | rfl | (simp; done) | (simp [*]; done)), (by first | rfl | (simp; done) | (simp [*]; done)), (by first | rfl | (simp; done) | (simp [*]; done)), H', ⟨by have := HK1.out; omega⟩, ⟨by (with_reducible repeat (first | apply Kd.R_alloc | apply Kd.R_drewN | apply Kd.R_drew)); exact Kd.R_mono HO_5.out (fun _ hk => ⟨hk.2, hk.1.1⟩)⟩, ⟨by (with_reducible repeat (first | apply Kd.R_alloc | apply Kd.R_drewN | apply Kd.R_drew)); exact Kd.R_mono HO162.out (fun _ hk => ⟨hk.1, hk.2.1⟩)⟩, ⟨by (with_reducible repeat (first | apply Kd.R_alloc | apply Kd.R_drewN | apply Kd.R_drew)); exact Kd.R_mono HO_7.out (fun _ hk => ⟨hk.1.1, hk.2⟩)⟩, ⟨by repeat (first | exact HB.out | apply below_alloc | apply pw_below_drewN | apply below_drew1)⟩⟩
                       · rw [if_neg c26] at H
                         exact absurd H (by simp)
                   · rw [if_neg c21] at H
                     have c21b0 : (((rd_T48 l0 (rd ((rd_T48 l0 a1).f1) x10_1)).f0) == 8) = false := beq_eq_false_iff_ne.mpr c21
                     have c21b1 : (((rd_T48 l0 (rd ((rd_T48 l0 a1).f1) x10_1)).f0) != 8) = true := bne_iff_ne.mpr c21
                     by_cases c30 : ((rd_T48 l0 (rd ((rd_T48 l0 a1).f1) x10_1)).f0) = 7
                     · rw [if_pos c30] at H
                       have c30b0 : (((rd_T48 l0 (rd ((rd_T48 l0 a1).f1) x10_1)).f0) == 7) = true := beq_iff_eq.mpr c30
                       have c30b1 : (((rd_T48 l0 (rd ((rd_T48 l0 a1).f1) x10_1)).f0) != 7) = false := bne_eq_false_iff_eq.mpr c30
                       clear c30
                       replace H := Option.bind_eq_some_iff.mp H
                       obtain ⟨t163, A310, H⟩ := H
                       replace H : (if x6_1.length + t163.length < 8796093022208 then (purflingref06_Rows.l0 k1 l0 a1 x5_1 (x6_1 ++ t163) x7_1 x8_1 x9_1 (wrap64 (x10_1 + 1))) else (none)) = some r := H
                       have A31 := Aside0.mk A310
                       clear A310
                       by_cases c32 : x6_1.length + t163.length < 8796093022208
                       · rw [if_pos c32] at H
                         have LMc32 := Aside0.mk c32
                         clear c32
                         obtain ⟨y166, hy166⟩ : ∃ y_ : List (S35), y_ = (x6_1 ++ t163) := ⟨_, rfl⟩
                         replace H : (purflingref06_Rows.l0 k1 l0 a1 x5_1 y166 x7_1 x8_1 x9_1 (wrap64 (x10_1 + 1))) = some r := by first | (rw [hy166]; with_reducible exact H) | (have H2_ := (Option.bind_some _ _).symm.trans H; rw [hy166]; with_reducible exact H2_) | (have H2_ := (Option.bind_some _ _).symm.trans H; with_reducible exact H2_) | with_reducible exact H | (rw [hy166]; exact H) | exact H
                         have Ny166 := Aside0.mk hy166
                         clear hy166
                         have H' := Aside0.mk H
                         clear H
                         have p132 : 0 ≤ (a1 : Int) := of_decide_eq_true (by first | (with_reducible assumption) | assumption)
                         have q132 : a1 < (l0.length : Int) := of_decide_eq_true (by first | (with_reducible assumption) | assumption)
                         obtain ⟨ad132, A132_1, c132_1, A132_31, c132_31, e132, hx132_0, hx132_1, -, -, -, -, -, -, -, -, -, -, -, -, -, -, -, -, -, -, -, -, hx132_22, -, -, -, -, -, -, -, -, hx132_31, -, -, hl132_1, hi132_1, hl132_31, hi132_31⟩ := at_T48 HR0.out a1 p132 q132
                         cases e132
                         replace hx132_0 := (HB.out.cell (World.block_lt_of_cell? w _ hx132_0)).trans hx132_0
                         replace hx132_1 := (HB.out.cell (World.block_lt_of_cell? w _ hx132_1)).trans hx132_1
                         replace hx132_22 := (HB.out.cell (World.block_lt_of_cell? w _ hx132_22)).trans hx132_22
                         replace hx132_31 := (HB.out.cell (World.block_lt_of_cell? w _ hx132_31)).trans hx132_31
                         have HR132_1 := Aside0.mk hi132_1
                         have HC132_1 := Aside0.mk hl132_1
                         clear hi132_1 hl132_1
                         have HR132_31 := Aside0.mk hi132_31
                         have HC132_31 := Aside0.mk hl132_31
                         clear hi132_31 hl132_31
                         replace p132 := eq_true p132
                         replace q132 := eq_true q132
                         have p139 : 0 ≤ (a1 : Int) := of_decide_eq_true (by first | (with_reducible assumption) | assumption)
                         have q139 : a1 < (l0.length : Int) := of_decide_eq_true (by first | (with_reducible assumption) | assumption)
                         obtain ⟨ad139, A139_1, c139_1, A139_31, c139_31, e139, hx139_0, hx139_1, -, -, -, -, -, -, -, -, -, -, -, -, -, -, -, -, -, -, -, -, hx139_22, -, -, -, -, -, -, -, -, hx139_31, -, -, hl139_1, hi139_1, hl139_31, hi139_31⟩ := at_T48 HR0.out a1 p139 q139
                         obtain rfl : ad132 = ad139 := (by injection e139)
                         replace hx139_0 := (HB.out.cell (World.block_lt_of_cell? w _ hx139_0)).trans hx139_0
                         replace hx139_1 := (HB.out.cell (World.block_lt_of_cell? w _ hx139_1)).trans hx139_1
                         replace hx139_22 := (HB.out.cell (World.block_lt_of_cell? w _ hx139_22)).trans hx139_22
                         replace hx139_31 := (HB.out.cell (World.block_lt_of_cell? w _ hx139_31)).trans hx139_31
                         have HR139_1 := Aside0.mk hi139_1
                         have HC139_1 := Aside0.mk hl139_1
                         clear hi139_1 hl139_1
                         have HR139_31 := Aside0.mk hi139_31
                         have HC139_31 := Aside0.mk hl139_31
                         clear hi139_31 hl139_31
                         replace p139 := eq_true p139
                         replace q139 := eq_true q139
                         have ea_ := Option.some.inj (hx132_1.symm.trans hx139_1)
                         injection ea_ with ea_ en_ ec_
                         subst ea_
                         subst ec_
                         clear en_
                         have ea_ := Option.some.inj (hx132_31.symm.trans hx139_31)
                         injection ea_ with ea_ en_ ec_
                         subst ea_
                         subst ec_
                         clear en_
                         have p140 : 0 ≤ (x10_1 : Int) := of_decide_eq_true (by first | (with_reducible assumption) | assumption)
                         have q140 : x10_1 < (((rd_T48 l0 a1).f1).length : Int) := of_decide_eq_true (by first | (with_reducible assumption) | assumption)
                         obtain ⟨ad140, e140, hx140_0⟩ := Kd.at_int HR139_1.out x10_1 p140 q140
                         cases e140
                         replace hx140_0 := (HB.out.cell (World.block_lt_of_cell? w _ hx140_0)).trans hx140_0
                         replace p140 := eq_true p140
                         replace q140 := eq_true q140
                         have p141 : 0 ≤ ((rd ((rd_T48 l0 a1).f1) x10_1) : Int) := of_decide_eq_true (by first | (with_reducible assumption) | assumption)
                         have q141 : (rd ((rd_T48 l0 a1).f1) x10_1) < (l0.length : Int) := of_decide_eq_true (by first | (with_reducible assumption) | assumption)
                         obtain ⟨ad141, A141_1, c141_1, A141_31, c141_31, e141, hx141_0, hx141_1, -, -, -, -, -, -, -, -, -, -, -, -, -, -, -, -, -, -, -, -, hx141_22, -, -, -, -, -, -, -, -, -, -, -, hl141_1, hi141_1, hl141_31, hi141_31⟩ := at_T48 HR0.out (rd ((rd_T48 l0 a1).f1) x10_1) p141 q141
                         obtain rfl : ad132 = ad141 := (by injection e141)
                         replace hx141_0 := (HB.out.cell (World.block_lt_of_cell? w _ hx141_0)).trans hx141_0
                         replace hx141_1 := (HB.out.cell (World.block_lt_of_cell? w _ hx141_1)).trans hx141_1
                         replace hx141_22 := (HB.out.cell (World.block_lt_of_cell? w _ hx141_22)).trans hx141_22
                         have HR141_1 := Aside0.mk hi141_1
                         have HC141_1 := Aside0.mk hl141_1
                         clear hi141_1 hl141_1
                         have HR141_31 := Aside0.mk hi141_31
                         have HC141_31 := Aside0.mk hl141_31
                         clear hi141_31 hl141_31
                         replace p141 := eq_true p141
                         replace q141 := eq_true q141
                         go_wp2_with (first | ((with_reducible refine gate_callee (f := 33) rfl ?_); refine goesL_ (some 75) rfl rfl Try.func33 (by kernel_rfl) rfl #[.slice (some ad132) l0.length c0, .int .i64 (rd ((rd_T48 l0 a1).f1) x10_1)] rfl (by (try simp only [List.map_toArray, List.map_cons, List.map_nil]); first | done | rfl) ?_; (with_reducible refine (purflingref06_group.calls k1 _ _ l0 (rd ((rd_T48 l0 a1).f1) x10_1) t163 _ ?side1 ?side2 A31.out).mono ?_); (case side1 => repeat (first | exact (Kd.C_below HR0.out HB.out) | (with_reducible refine Kd.C_alloc ?_ _) | (with_reducible refine Kd.C_drewN ?_ _) | (with_reducible refine Kd.C_drew ?_))); (case side2 => exact HC0.out); rintro e w33 ⟨v164, rfl, ho0, hb⟩; refine ⟨_, rfl, ?_⟩; have n0_ := Aside0.mk (Kd.R_elder' (by (with_reducible repeat (first | apply Kd.R_alloc | apply Kd.R_drewN | apply Kd.R_drew)); exact HO_5.out) (Kd.R_base ho0) hb); have n1_ := Aside0.mk (Kd.R_elder' (by (with_reducible repeat (first | apply Kd.R_alloc | apply Kd.R_drewN | apply Kd.R_drew)); exact HO_6.out) (Kd.R_base ho0) hb); have n2_ := Aside0.mk (Kd.R_elder' (by (with_reducible repeat (first | apply Kd.R_alloc | apply Kd.R_drewN | apply Kd.R_drew)); exact HO_7.out) (Kd.R_base ho0) hb); have n3_ := Aside0.mk (Kd.R_lower (Kd.R_new' (Kd.R_new' (Kd.R_new' ho0 (Kd.R_lt (by (with_reducible repeat (first | apply Kd.R_alloc | apply Kd.R_drewN | apply Kd.R_drew)); exact HO_5.out))) (Kd.R_lt (by (with_reducible repeat (first | apply Kd.R_alloc | apply Kd.R_drewN | apply Kd.R_drew)); exact HO_6.out))) (Kd.R_lt (by (with_reducible repeat (first | apply Kd.R_alloc | apply Kd.R_drewN | apply Kd.R_drew)); exact HO_7.out))) (below_size (by repeat (first | exact HB.out | apply below_alloc | apply pw_below_drewN | apply below_drew1)))); have n4_ := Aside0.mk (below_step (by repeat (first | exact HB.out | apply below_alloc | apply pw_below_drewN | apply below_drew1)) hb); clear HO_5; clear HO_6; clear HO_7; clear HB; have HO_5 := n0_; have HO_6 := n1_; have HO_7 := n2_; have HO165 := n3_; have HB := n4_; clear n0_ n1_ n2_ n3_ n4_; (try clear hb); (try clear hb2); (try clear hk); (try clear hi); (try clear ho0); obtain ⟨Ao35, co35, eo35⟩ := Kd.R_slice HO165.out; subst eo35) | ((with_reducible refine gate_builtin (b := .append) (xs := #[.tmp 72, .tmp 75]) rfl ?_); at_builtin; refine Kd.R_append_rows k35 (w0 := w) w.heap.size rfl (.tmp 72) (.tmp 75) 25 35 (.agg #[(.int .i64 0), (.int .i64 0)]) 16 rfl Try.underlying25 info35 rfl (by decide) (by omega) u6 x6_1 t163 _ _ _ (fun k_ => some k_ ≠ (u5 : Value).ownBlock ∧ some k_ ≠ (u7 : Value).ownBlock ∧ some k_ ≠ (.slice Ao35 t163.length co35 : Value).ownBlock) (fun _ => False) rfl rfl ?aO ?aR (fun _ _ h => h) (fun _ h => h.elim) ?aF ?aB ?aS ?aL ?_; (case aR => repeat (first | exact (Kd.R_reads' HO165.out).2.2 | (with_reducible refine Kd.C_alloc ?_ _) | (with_reducible refine Kd.C_drewN ?_ _) | (with_reducible refine Kd.C_drew ?_))); (case aB => exact (by repeat (first | exact HB.out | apply below_alloc | apply pw_below_drewN | apply below_drew1))); (case aF => exact (fun k_ hk => ⟨Kd.fresh' (Kd.R_lt (by (with_reducible repeat (first | apply Kd.R_alloc | apply Kd.R_drewN | apply Kd.R_drew)); exact HO_5.out)) k_ hk, Kd.fresh' (Kd.R_lt (by (with_reducible repeat (first | apply Kd.R_alloc | apply Kd.R_drewN | apply Kd.R_drew)); exact HO_7.out)) k_ hk, Kd.fresh' (Kd.R_lt (by (with_reducible repeat (first | apply Kd.R_alloc | apply Kd.R_drewN | apply Kd.R_drew)); exact HO165.out)) k_ hk⟩)); (case aO => exact (by (with_reducible repeat (first | apply Kd.R_alloc | apply Kd.R_drewN | apply Kd.R_drew)); exact Kd.R_mono HO_6.out (fun _ hk => ⟨hk.1.1, ⟨hk.1.2, hk.2⟩⟩))); (case aS => exact (below_size (by repeat (first | exact HB.out | apply below_alloc | apply pw_below_drewN | apply below_drew1)))); (case aL => have := LMc32.out; omega); intro v167 w34 ho hb hg hat; rw [← Ny166.out] at ho; have n0_ := Aside0.mk (Kd.R_after (ok := (fun k_ => some k_ ≠ (u7 : Value).ownBlock ∧ some k_ ≠ (.slice Ao35 t163.length co35 : Value).ownBlock)) (by (with_reducible repeat (first | apply Kd.R_alloc | apply Kd.R_drewN | apply Kd.R_drew)); exact Kd.R_mono HO_5.out (fun _ hk => ⟨⟨hk.1.2, hk.2⟩, hk.1.1⟩)) hg hat); have n1_ := Aside0.mk (Kd.R_after (ok := (fun k_ => some k_ ≠ (u5 : Value).ownBlock ∧ some k_ ≠ (.slice Ao35 t163.length co35 : Value).ownBlock)) (by (with_reducible repeat (first | apply Kd.R_alloc | apply Kd.R_drewN | apply Kd.R_drew)); exact Kd.R_mono HO_7.out (fun _ hk => ⟨⟨hk.1.1, hk.2⟩, hk.1.2⟩)) hg hat); have n2_ := Aside0.mk (Kd.R_after (ok := (fun k_ => some k_ ≠ (u5 : Value).ownBlock ∧ some k_ ≠ (u7 : Value).ownBlock)) (by (with_reducible repeat (first | apply Kd.R_alloc | apply Kd.R_drewN | apply Kd.R_drew)); exact Kd.R_mono HO165.out (fun _ hk => ⟨⟨hk.1.1.2, hk.2⟩, hk.1.2⟩)) hg hat); have n3_ := Aside0.mk (hb); have n4_ := Aside0.mk (ho); clear HO_5; clear HO_7; clear HO165; clear HB; clear HO_6; have HO_5 := n0_; have HO_7 := n1_; have HO165 := n2_; have HB := n3_; have HO168 := n4_; clear n0_ n1_ n2_ n3_ n4_; clear ho hb hg hat))
                         go_roundg k1
                         case measure => have := HK1.out; omega
                         case rel => exact ⟨(x5_1), (y166), (x7_1), (x8_1), (x9_1), (wrap64 (x10_1 + 1)), (by first | rfl | (simp; done) | (simp [*]; done)), (by first | rfl | (simp; done) | (simp [*]; done)), (by first | rfl | (simp; done) | (simp [*]; done)), H', ⟨by have := HK1.out; omega⟩, ⟨by (with_reducible repeat (first | apply Kd.R_alloc | apply Kd.R_drewN | apply Kd.R_drew)); exact Kd.R_mono HO_5.out (fun _ hk => ⟨hk.2, hk.1.1⟩)⟩, ⟨by (with_reducible repeat (first | apply Kd.R_alloc | apply Kd.R_drewN | apply Kd.R_drew)); exact Kd.R_mono HO168.out (fun _ hk => ⟨hk.1, hk.2.1⟩)⟩, ⟨by (with_reducible repeat (first | apply Kd.R_alloc | apply Kd.R_drewN | apply Kd.R_drew)); exact Kd.R_mono HO_7.out (fun _ hk => ⟨hk.1.1, hk.2⟩)⟩, ⟨by repeat (first | exact HB.out | apply below_alloc | apply pw_below_drewN | apply below_drew1)⟩⟩
                       · rw [if_neg c32] at H
                         exact absurd H (by simp)
                     · rw [if_neg c30] at H
                       have c30b0 : (((rd_T48 l0 (rd ((rd_T48 l0 a1).f1) x10_1)).f0) == 7) = false := beq_eq_false_iff_ne.mpr c30
                       have c30b1 : (((rd_T48 l0 (rd ((rd_T48 l0 a1).f1) x10_1)).f0) != 7) = true := bne_iff_ne.mpr c30
                       have H' := Aside0.mk H
                       clear H
                       have p132 : 0 ≤ (a1 : Int) := of_decide_eq_true (by first | (with_reducible assumption) | assumption)
                       have q132 : a1 < (l0.length : Int) := of_decide_eq_true (by first | (with_reducible assumption) | assumption)
                       obtain ⟨ad132, A132_1, c132_1, A132_31, c132_31, e132, hx132_0, hx132_1, -, -, -, -, -, -, -, -, -, -, -, -, -, -, -, -, -, -, -, -, hx132_22, -, -, -, -, -, -, -, -, hx132_31, -, -, hl132_1, hi132_1, hl132_31, hi132_31⟩ := at_T48 HR0.out a1 p132 q132
                       cases e132
                       replace hx132_0 := (HB.out.cell (World.block_lt_of_cell? w _ hx132_0)).trans hx132_0
                       replace hx132_1 := (HB.out.cell (World.block_lt_of_cell? w _ hx132_1)).trans hx132_1
                       replace hx132_22 := (HB.out.cell (World.block_lt_of_cell? w _ hx132_22)).trans hx132_22
                       replace hx132_31 := (HB.out.cell (World.block_lt_of_cell? w _ hx132_31)).trans hx132_31
                       have HR132_1 := Aside0.mk hi132_1
                       have HC132_1 := Aside0.mk hl132_1
                       clear hi132_1 hl132_1
                       have HR132_31 := Aside0.mk hi132_31
                       have HC132_31 := Aside0.mk hl132_31
                       clear hi132_31 hl132_31
                       replace p132 := eq_true p132
                       replace q132 := eq_true q132
                       have p139 : 0 ≤ (a1 : Int) := of_decide_eq_true (by first | (with_reducible assumption) | assumption)
                       have q139 : a1 < (l0.length : Int) := of_decide_eq_true (by first | (with_reducible assumption) | assumption)
                       obtain ⟨ad139, A139_1, c139_1, A139_31, c139_31, e139, hx139_0, hx139_1, -, -, -, -, -, -, -, -, -, -, -, -, -, -, -, -, -, -, -, -, hx139_22, -, -, -, -, -, -, -, -, hx139_31, -, -, hl139_1, hi139_1, hl139_31, hi139_31⟩ := at_T48 HR0.out a1 p139 q139
                       obtain rfl : ad132 = ad139 := (by injection e139)
                       replace hx139_0 := (HB.out.cell (World.block_lt_of_cell? w _ hx139_0)).trans hx139_0
                       replace hx139_1 := (HB.out.cell (World.block_lt_of_cell? w _ hx139_1)).trans hx139_1
                       replace hx139_22 := (HB.out.cell (World.block_lt_of_cell? w _ hx139_22)).trans hx139_22
                       replace hx139_31 := (HB.out.cell (World.block_lt_of_cell? w _ hx139_31)).trans hx139_31
                       have HR139_1 := Aside0.mk hi139_1
                       have HC139_1 := Aside0.mk hl139_1
                       clear hi139_1 hl139_1
                       have HR139_31 := Aside0.mk hi139_31
                       have HC139_31 := Aside0.mk hl139_31
                       clear hi139_31 hl139_31
                       replace p139 := eq_true p139
                       replace q139 := eq_true q139
                       have ea_ := Option.some.inj (hx132_1.symm.trans hx139_1)
                       injection ea_ with ea_ en_ ec_
                       subst ea_
                       subst ec_
                       clear en_
                       have ea_ := Option.some.inj (hx132_31.symm.trans hx139_31)
                       injection ea_ with ea_ en_ ec_
                       subst ea_
                       subst ec_
                       clear en_
                       have p140 : 0 ≤ (x10_1 : Int) := of_decide_eq_true (by first | (with_reducible assumption) | assumption)
                       have q140 : x10_1 < (((rd_T48 l0 a1).f1).length : Int) := of_decide_eq_true (by first | (with_reducible assumption) | assumption)
                       obtain ⟨ad140, e140, hx140_0⟩ := Kd.at_int HR139_1.out x10_1 p140 q140
                       cases e140
                       replace hx140_0 := (HB.out.cell (World.block_lt_of_cell? w _ hx140_0)).trans hx140_0
                       replace p140 := eq_true p140
                       replace q140 := eq_true q140
                       have p141 : 0 ≤ ((rd ((rd_T48 l0 a1).f1) x10_1) : Int) := of_decide_eq_true (by first | (with_reducible assumption) | assumption)
                       have q141 : (rd ((rd_T48 l0 a1).f1) x10_1) < (l0.length : Int) := of_decide_eq_true (by first | (with_reducible assumption) | assumption)
                       obtain ⟨ad141, A141_1, c141_1, A141_31, c141_31, e141, hx141_0, hx141_1, -, -, -, -, -, -, -, -, -, -, -, -, -, -, -, -, -, -, -, -, hx141_22, -, -, -, -, -, -, -, -, -, -, -, hl141_1, hi141_1, hl141_31, hi141_31⟩ := at_T48 HR0.out (rd ((rd_T48 l0 a1).f1) x10_1) p141 q141
                       obtain rfl : ad132 = ad141 := (by injection e141)
                       replace hx141_0 := (HB.out.cell (World.block_lt_of_cell? w _ hx141_0)).trans hx141_0
                       replace hx141_1 := (HB.out.cell (World.block_lt_of_cell? w _ hx141_1)).trans hx141_1
                       replace hx141_22 := (HB.out.cell (World.block_lt_of_cell? w _ hx141_22)).trans hx141_22
                       have HR141_1 := Aside0.mk hi141_1
                       have HC141_1 := Aside0.mk hl141_1
                       clear hi141_1 hl141_1
                       have HR141_31 := Aside0.mk hi141_31
                       have HC141_31 := Aside0.mk hl141_31
                       clear hi141_31 hl141_31
                       replace p141 := eq_true p141
                       replace q141 := eq_true q141
                       go_wp2
                       go_roundg k1
                       case measure => have := HK1.out; omega
                       case rel => exact ⟨(x5_1), (x6_1), (x7_1), (x8_1), (x9_1), (wrap64 (x10_1 + 1)), (by first | rfl | (simp; done) | (simp [*]; done)), (by first | rfl | (simp; done) | (simp [*]; done)), (by first | rfl | (simp; done) | (simp [*]; done)), H', ⟨by have := HK1.out; omega⟩, ⟨by (with_reducible repeat (first | apply Kd.R_alloc | apply Kd.R_drewN | apply Kd.R_drew)); exact HO_5.out⟩, ⟨by (with_reducible repeat (first | apply Kd.R_alloc | apply Kd.R_drewN | apply Kd.R_drew)); exact HO_6.out⟩, ⟨by (with_reducible repeat (first | apply Kd.R_alloc | apply Kd.R_drewN | apply Kd.R_drew)); exact HO_7.out⟩, ⟨by repeat (first | exact HB.out | apply below_alloc | apply pw_below_drewN | apply below_drew1)⟩⟩
             · rw [if_neg c8] at H
               exact absurd H (by simp)
           · rw [if_neg c7] at H
             exact absurd H (by simp)
         · rw [if_neg c6] at H
           exact absurd H (by simp)
       · rw [if_neg c5] at H
         have c5b0 : decide (x10_1 < (((rd_T48 l0 a1).f1).length : Int)) = false := decide_eq_false c5
         clear c5
         by_cases c36 : x5_1.length + x6_1.length < 8796093022208
         · rw [if_pos c36] at H
           have LMc36 := Aside0.mk c36
           clear c36
           obtain ⟨y133, hy133⟩ : ∃ y_ : List (S35), y_ = (x5_1 ++ x6_1) := ⟨_, rfl⟩
           replace H : (if y133.length + x7_1.length < 8796093022208 then (some (y133 ++ x7_1)) else (none)) = some r := by first | (rw [hy133]; with_reducible exact H) | (have H2_ := (Option.bind_some _ _).symm.trans H; rw [hy133]; with_reducible exact H2_) | (have H2_ := (Option.bind_some _ _).symm.trans H; with_reducible exact H2_) | with_reducible exact H | (rw [hy133]; exact H) | exact H
           have Ny133 := Aside0.mk hy133
           clear hy133
           by_cases c37 : y133.length + x7_1.length < 8796093022208
           · rw [if_pos c37] at H
             have LMc37 := Aside0.mk c37
             clear c37
             obtain ⟨y136, hy136⟩ : ∃ y_ : List (S35), y_ = (y133 ++ x7_1) := ⟨_, rfl⟩
             replace H : (some y136) = some r := by first | (rw [hy136]; with_reducible exact H) | (have H2_ := (Option.bind_some _ _).symm.trans H; rw [hy136]; with_reducible exact H2_) | (have H2_ := (Option.bind_some _ _).symm.trans H; with_reducible exact H2_) | with_reducible exact H | (rw [hy136]; exact H) | exact H
             have Ny136 := Aside0.mk hy136
             clear hy136
             obtain rfl := Option.some.inj H
             have p132 : 0 ≤ (a1 : Int) := of_decide_eq_true (by first | (with_reducible assumption) | assumption)
             have q132 : a1 < (l0.length : Int) := of_decide_eq_true (by first | (with_reducible assumption) | assumption)
             obtain ⟨ad132, A132_1, c132_1, A132_31, c132_31, e132, hx132_0, hx132_1, -, -, -, -, -, -, -, -, -, -, -, -, -, -, -, -, -, -, -, -, hx132_22, -, -, -, -, -, -, -, -, hx132_31, -, -, hl132_1, hi132_1, hl132_31, hi132_31⟩ := at_T48 HR0.out a1 p132 q132
             cases e132
             replace hx132_0 := (HB.out.cell (World.block_lt_of_cell? w _ hx132_0)).trans hx132_0
             replace hx132_1 := (HB.out.cell (World.block_lt_of_cell? w _ hx132_1)).trans hx132_1
             replace hx132_22 := (HB.out.cell (World.block_lt_of_cell? w _ hx132_22)).trans hx132_22
             replace hx132_31 := (HB.out.cell (World.block_lt_of_cell? w _ hx132_31)).trans hx132_31
             have HR132_1 := Aside0.mk hi132_1
             have HC132_1 := Aside0.mk hl132_1
             clear hi132_1 hl132_1
             have HR132_31 := Aside0.mk hi132_31
             have HC132_31 := Aside0.mk hl132_31
             clear hi132_31 hl132_31
             replace p132 := eq_true p132
             replace q132 := eq_true q132
             obtain ⟨Ao39, co39, eo39⟩ := Kd.R_slice HO_6.out
             subst eo39
             go_wp2_with (first | ((with_reducible refine gate_builtin (b := .append) (xs := #[.tmp 77, .tmp 78]) rfl ?_); at_builtin; refine Kd.R_append_rows k35 (w0 := w) w.heap.size rfl (.tmp 77) (.tmp 78) 25 35 (.agg #[(.int .i64 0), (.int .i64 0)]) 16 rfl Try.underlying25 info35 rfl (by decide) (by omega) u5 x5_1 x6_1 _ _ _ (fun k_ => some k_ ≠ (.slice Ao39 x6_1.length co39 : Value).ownBlock ∧ some k_ ≠ (u7 : Value).ownBlock) (fun _ => False) rfl rfl ?aO ?aR (fun _ _ h => h) (fun _ h => h.elim) ?aF ?aB ?aS ?aL ?_; (case aR => repeat (first | exact (Kd.R_reads' HO_6.out).2.2 | (with_reducible refine Kd.C_alloc ?_ _) | (with_reducible refine Kd.C_drewN ?_ _) | (with_reducible refine Kd.C_drew ?_))); (case aB => exact (by repeat (first | exact HB.out | apply below_alloc | apply pw_below_drewN | apply below_drew1))); (case aF => exact (fun k_ hk => ⟨Kd.fresh' (Kd.R_lt (by (with_reducible repeat (first | apply Kd.R_alloc | apply Kd.R_drewN | apply Kd.R_drew)); exact HO_6.out)) k_ hk, Kd.fresh' (Kd.R_lt (by (with_reducible repeat (first | apply Kd.R_alloc | apply Kd.R_drewN | apply Kd.R_drew)); exact HO_7.out)) k_ hk⟩)); (case aO => exact (by (with_reducible repeat (first | apply Kd.R_alloc | apply Kd.R_drewN | apply Kd.R_drew)); exact HO_5.out)); (case aS => exact (below_size (by repeat (first | exact HB.out | apply below_alloc | apply pw_below_drewN | apply below_drew1)))); (case aL => have := LMc36.out; omega); intro v134 w38 ho hb hg hat; rw [← Ny133.out] at ho; have n0_ := Aside0.mk (Kd.R_after (ok := (fun k_ => some k_ ≠ (u7 : Value).ownBlock)) (by (with_reducible repeat (first | apply Kd.R_alloc | apply Kd.R_drewN | apply Kd.R_drew)); exact Kd.R_mono HO_6.out (fun _ hk => ⟨hk.2, hk.1⟩)) hg hat); have n1_ := Aside0.mk (Kd.R_after (ok := (fun k_ => some k_ ≠ (.slice Ao39 x6_1.length co39 : Value).ownBlock)) (by (with_reducible repeat (first | apply Kd.R_alloc | apply Kd.R_drewN | apply Kd.R_drew)); exact Kd.R_mono HO_7.out (fun _ hk => ⟨hk.2, hk.1⟩)) hg hat); have n2_ := Aside0.mk (hb); have n3_ := Aside0.mk (ho); clear HO_6; clear HO_7; clear HB; clear HO_5; have HO_6 := n0_; have HO_7 := n1_; have HB := n2_; have HO135 := n3_; clear n0_ n1_ n2_ n3_; clear ho hb hg hat; obtain ⟨Ao41, co41, eo41⟩ := Kd.R_slice HO_7.out; subst eo41) | ((with_reducible refine gate_builtin (b := .append) (xs := #[.tmp 79, .tmp 80]) rfl ?_); at_builtin; refine Kd.R_append_rows k35 (w0 := w) w.heap.size rfl (.tmp 79) (.tmp 80) 25 35 (.agg #[(.int .i64 0), (.int .i64 0)]) 16 rfl Try.underlying25 info35 rfl (by decide) (by omega) v134 y133 x7_1 _ _ _ (fun k_ => some k_ ≠ (.slice Ao39 x6_1.length co39 : Value).ownBlock ∧ some k_ ≠ (.slice Ao41 x7_1.length co41 : Value).ownBlock) (fun _ => False) rfl rfl ?aO ?aR (fun _ _ h => h) (fun _ h => h.elim) ?aF ?aB ?aS ?aL ?_; (case aR => repeat (first | exact (Kd.R_reads' HO_7.out).2.2 | (with_reducible refine Kd.C_alloc ?_ _) | (with_reducible refine Kd.C_drewN ?_ _) | (with_reducible refine Kd.C_drew ?_))); (case aB => exact (by repeat (first | exact HB.out | apply below_alloc | apply pw_below_drewN | apply below_drew1))); (case aF => exact (fun k_ hk => ⟨Kd.fresh' (Kd.R_lt (by (with_reducible repeat (first | apply Kd.R_alloc | apply Kd.R_drewN | apply Kd.R_drew)); exact HO_6.out)) k_ hk, Kd.fresh' (Kd.R_lt (by (with_reducible repeat (first | apply Kd.R_alloc | apply Kd.R_drewN | apply Kd.R_drew)); exact HO_7.out)) k_ hk⟩)); (case aO => exact (by (with_reducible repeat (first | apply Kd.R_alloc | apply Kd.R_drewN | apply Kd.R_drew)); exact HO135.out)); (case aS => exact (below_size (by repeat (first | exact HB.out | apply below_alloc | apply pw_below_drewN | apply below_drew1)))); (case aL => have := LMc37.out; omega); intro v137 w40 ho hb hg hat; rw [← Ny136.out] at ho; have n0_ := Aside0.mk (Kd.R_after (ok := (fun k_ => some k_ ≠ (.slice Ao41 x7_1.length co41 : Value).ownBlock)) (by (with_reducible repeat (first | apply Kd.R_alloc | apply Kd.R_drewN | apply Kd.R_drew)); exact HO_6.out) hg hat); have n1_ := Aside0.mk (Kd.R_after (ok := (fun k_ => some k_ ≠ (.slice Ao39 x6_1.length co39 : Value).ownBlock)) (by (with_reducible repeat (first | apply Kd.R_alloc | apply Kd.R_drewN | apply Kd.R_drew)); exact HO_7.out) hg hat); have n2_ := Aside0.mk (hb); have n3_ := Aside0.mk (ho); clear HO_6; clear HO_7; clear HB; clear HO135; have HO_6 := n0_; have HO_7 := n1_; have HB := n2_; have HO138 := n3_; clear n0_ n1_ n2_ n3_; clear ho hb hg hat))
             go_ret
             exact ⟨_, by first | rfl | (simp [errW_none, errW_some] <;> rfl) | (simp [*, errW_none, errW_some] <;> rfl), by (with_reducible repeat (first | apply Kd.R_alloc | apply Kd.R_drewN | apply Kd.R_drew)); exact Kd.R_mono HO138.out (fun _ hk => trivial), by repeat (first | exact HB.out | apply below_alloc | apply pw_below_drewN | apply below_drew1)⟩
           · rw [if_neg c37] at H
             exact absurd H (by simp)
         · rw [if_neg c36] at H
           exact absurd H (by simp)
     · rw [if_neg c4] at H
       exact absurd H (by simp)
   · rw [if_neg c3] at H
     exact absurd H (by simp)
end Go.Proofs.Ytdmnaehgngpikaa.K
