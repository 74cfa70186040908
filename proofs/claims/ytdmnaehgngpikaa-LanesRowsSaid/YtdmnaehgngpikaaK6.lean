-- PRINTED by print.py (a twelfth state) out of the translation. Not trusted: Lean checks it.
import Derived.Test.YtdmnaehgngpikaaK0
namespace Go.Proofs.Ytdmnaehgngpikaa.K
open Go.RowKit Go.Proofs.YtdmnaehgngpikaaW.PrintWords Go.Proofs.YtdmnaehgngpikaaW.PrintLast Go.Proofs.YtdmnaehgngpikaaW.PrintMore
attribute [local go_sem] max2_int min2_int max_two min_two max_three min_three max_four min_four   -- for this text's walks alone
set_option linter.unusedVariables false
set_option linter.unusedSimpArgs false
/-! ### purflingref06_group: function 33 -/
def purflingref06_group.l0 : Nat → List (S48) → Int → List (S35) → Int → Option ((List (S35)))
 | 0, _, _, _, _ => none
 | k + 1, x0, x1, x5, x6 => if 0 ≤ x1 then (if x1 < (x0.length : Int) then (if x6 < (((rd_T48 x0 x1).f1).length : Int) then (if 0 ≤ x6 then (if 0 ≤ (rd ((rd_T48 x0 x1).f1) x6) then (if (rd ((rd_T48 x0 x1).f1) x6) < (x0.length : Int) then (if ((rd_T48 x0 (rd ((rd_T48 x0 x1).f1) x6)).f0) = 9 then (if x5.length < 8796093022208 then (purflingref06_group.l0 k x0 x1 (x5 ++ [(⟨rd ((rd_T48 x0 x1).f1) x6, x1⟩ : S35)]) (wrap64 (x6 + 1))) else (none)) else (purflingref06_group.l0 k x0 x1 x5 (wrap64 (x6 + 1)))) else (none)) else (none)) else (none)) else (some x5)) else (none)) else (none)
def purflingref06_group.f (k : Nat) (l0 : List (S48)) (a1 : Int) : Option ((List (S35))) := purflingref06_group.l0 k l0 a1 ([] : List (S35)) 0
set_option maxHeartbeats 8000000 in
set_option maxRecDepth 100000 in
theorem purflingref06_group.calls (k : Nat) (A0 : Option Addr) (c0 : Nat) (l0 : List (S48)) (a1 : Int) (r : List (S35)) (w : World) (hr0 : Kd.C k48 w A0 l0.length l0) (hc0 : l0.length ≤ c0) (h : purflingref06_group.f k l0 a1 = some r) :
 Calls Try.prog 33 #[.slice A0 l0.length c0, .int .i64 a1] w fun e w' => ∃ v0_ : Value, e = .returned (v0_) ∧ Kd.R k35 35 w' w.heap.size (fun _ => True) v0_ r ∧ Below w.heap.size w w' := by
 have hu35 := Try.underlying35
 have HR0 := Aside0.mk hr0
 have HC0 := Aside0.mk hc0
 clear hr0 hc0
 have HB := Aside0.mk (Below.refl w.heap.size w)
 have H : (purflingref06_group.l0 k l0 a1 ([] : List (S35)) 0) = some r := h
 clear h
 have H' := Aside0.mk H
 clear H
 go_enter Try.func33, Try.ntmps33
 go_wp2
 go_loopg [5, 6] k (fun kq v5 v6 w' => ∃ (x5_1 : List (S35)) (x6_1 : Int), v6 = .int .i64 x6_1 ∧ Aside0 (purflingref06_group.l0 kq l0 a1 x5_1 x6_1 = some r) ∧ Aside0 (kq ≤ k) ∧ Aside0 (Kd.R k35 35 w' w.heap.size (fun _ => True) v5 x5_1) ∧ Aside0 (Below w.heap.size w w'))
 case atStart => exact ⟨(([] : List (S35))), (0), (by first | rfl | (simp; done) | (simp [*]; done)), H', ⟨Nat.le_refl _⟩, ⟨by first | exact Kd.R_nil _ _ _ _ _ | exact Kd.N_nil _ _ _ _ _ | exact Kd.V_nil _ _ _ _ _ | exact Kd.Q_nil _ _ _ _ _ | exact Kd.S_nil _ _ _ _ _⟩, ⟨by repeat (first | exact HB.out | apply below_alloc | apply pw_below_drewN | apply below_drew1)⟩⟩
 case round =>
  clear H'
  try clear p2
  obtain ⟨x5_1, x6_1, rfl, HA, HK1, HO_5, HB⟩ := hrel
  cases gk with
  | zero => exact absurd HA.out (by simp [purflingref06_group.l0])
  | succ k1 =>
   have H := HA.out
   clear HA
   simp only [purflingref06_group.l0] at H
   by_cases c3 : 0 ≤ a1
   · rw [if_pos c3] at H
     have c3b0 : decide (0 ≤ a1) = true := decide_eq_true c3
     clear c3
     by_cases c4 : a1 < (l0.length : Int)
     · rw [if_pos c4] at H
       have c4b0 : decide (a1 < (l0.length : Int)) = true := decide_eq_true c4
       clear c4
       by_cases c5 : x6_1 < (((rd_T48 l0 a1).f1).length : Int)
       · rw [if_pos c5] at H
         have c5b0 : decide (x6_1 < (((rd_T48 l0 a1).f1).length : Int)) = true := decide_eq_true c5
         clear c5
         by_cases c6 : 0 ≤ x6_1
         · rw [if_pos c6] at H
           have c6b0 : decide (0 ≤ x6_1) = true := decide_eq_true c6
           clear c6
           by_cases c7 : 0 ≤ (rd ((rd_T48 l0 a1).f1) x6_1)
           · rw [if_pos c7] at H
             have c7b0 : decide (0 ≤ (rd ((rd_T48 l0 a1).f1) x6_1)) = true := decide_eq_true c7
             clear c7
             by_cases c8 : (rd ((rd_T48 l0 a1).f1) x6_1) < (l0.length : Int)
             · rw [if_pos c8] at H
               have c8b0 : decide ((rd ((rd_T48 l0 a1).f1) x6_1) < (l0.length : Int)) = true := decide_eq_true c8
               clear c8
               by_cases c9 : ((rd_T48 l0 (rd ((rd_T48 l0 a1).f1) x6_1)).f0) = 9
               · rw [if_pos c9] at H
                 have c9b0 : (((rd_T48 l0 (rd ((rd_T48 l0 a1).f1) x6_1)).f0) == 9) = true := beq_iff_eq.mpr c9
                 have c9b1 : (((rd_T48 l0 (rd ((rd_T48 l0 a1).f1) x6_1)).f0) != 9) = false := bne_eq_false_iff_eq.mpr c9
                 clear c9
                 by_cases c10 : x5_1.length < 8796093022208
                 · rw [if_pos c10] at H
                   have LMc10 := Aside0.mk c10
                   clear c10
                   obtain ⟨y129, hy129⟩ : ∃ y_ : List (S35), y_ = (x5_1 ++ [(⟨rd ((rd_T48 l0 a1).f1) x6_1, a1⟩ : S35)]) := ⟨_, rfl⟩
                   replace H : (purflingref06_group.l0 k1 l0 a1 y129 (wrap64 (x6_1 + 1))) = some r := by first | (rw [hy129]; with_reducible exact H) | (have H2_ := (Option.bind_some _ _).symm.trans H; rw [hy129]; with_reducible exact H2_) | (have H2_ := (Option.bind_some _ _).symm.trans H; with_reducible exact H2_) | with_reducible exact H | (rw [hy129]; exact H) | exact H
                   have Ny129 := Aside0.mk hy129
                   clear hy129
                   have H' := Aside0.mk H
                   clear H
                   have p125 : 0 ≤ (a1 : Int) := of_decide_eq_true (by first | (with_reducible assumption) | assumption)
                   have q125 : a1 < (l0.length : Int) := of_decide_eq_true (by first | (with_reducible assumption) | assumption)
                   obtain ⟨ad125, A125_1, c125_1, A125_31, c125_31, e125, hx125_0, hx125_1, -, -, -, -, -, -, -, -, -, -, -, -, -, -, -, -, -, -, -, -, hx125_22, -, -, -, -, -, -, -, -, hx125_31, -, -, hl125_1, hi125_1, hl125_31, hi125_31⟩ := at_T48 HR0.out a1 p125 q125
                   cases e125
                   replace hx125_0 := (HB.out.cell (World.block_lt_of_cell? w _ hx125_0)).trans hx125_0
                   replace hx125_1 := (HB.out.cell (World.block_lt_of_cell? w _ hx125_1)).trans hx125_1
                   replace hx125_22 := (HB.out.cell (World.block_lt_of_cell? w _ hx125_22)).trans hx125_22
                   replace hx125_31 := (HB.out.cell (World.block_lt_of_cell? w _ hx125_31)).trans hx125_31
                   have HR125_1 := Aside0.mk hi125_1
                   have HC125_1 := Aside0.mk hl125_1
                   clear hi125_1 hl125_1
                   have HR125_31 := Aside0.mk hi125_31
                   have HC125_31 := Aside0.mk hl125_31
                   clear hi125_31 hl125_31
                   replace p125 := eq_true p125
                   replace q125 := eq_true q125
                   have p126 : 0 ≤ (a1 : Int) := of_decide_eq_true (by first | (with_reducible assumption) | assumption)
                   have q126 : a1 < (l0.length : Int) := of_decide_eq_true (by first | (with_reducible assumption) | assumption)
                   obtain ⟨ad126, A126_1, c126_1, A126_31, c126_31, e126, hx126_0, hx126_1, -, -, -, -, -, -, -, -, -, -, -, -, -, -, -, -, -, -, -, -, hx126_22, -, -, -, -, -, -, -, -, hx126_31, -, -, hl126_1, hi126_1, hl126_31, hi126_31⟩ := at_T48 HR0.out a1 p126 q126
                   obtain rfl : ad125 = ad126 := (by injection e126)
                   replace hx126_0 := (HB.out.cell (World.block_lt_of_cell? w _ hx126_0)).trans hx126_0
                   replace hx126_1 := (HB.out.cell (World.block_lt_of_cell? w _ hx126_1)).trans hx126_1
                   replace hx126_22 := (HB.out.cell (World.block_lt_of_cell? w _ hx126_22)).trans hx126_22
                   replace hx126_31 := (HB.out.cell (World.block_lt_of_cell? w _ hx126_31)).trans hx126_31
                   have HR126_1 := Aside0.mk hi126_1
                   have HC126_1 := Aside0.mk hl126_1
                   clear hi126_1 hl126_1
                   have HR126_31 := Aside0.mk hi126_31
                   have HC126_31 := Aside0.mk hl126_31
                   clear hi126_31 hl126_31
                   replace p126 := eq_true p126
                   replace q126 := eq_true q126
                   have ea_ := Option.some.inj (hx125_1.symm.trans hx126_1)
                   injection ea_ with ea_ en_ ec_
                   subst ea_
                   subst ec_
                   clear en_
                   have ea_ := Option.some.inj (hx125_31.symm.trans hx126_31)
                   injection ea_ with ea_ en_ ec_
                   subst ea_
                   subst ec_
                   clear en_
                   have p127 : 0 ≤ (x6_1 : Int) := of_decide_eq_true (by first | (with_reducible assumption) | assumption)
                   have q127 : x6_1 < (((rd_T48 l0 a1).f1).length : Int) := of_decide_eq_true (by first | (with_reducible assumption) | assumption)
                   obtain ⟨ad127, e127, hx127_0⟩ := Kd.at_int HR126_1.out x6_1 p127 q127
                   cases e127
                   replace hx127_0 := (HB.out.cell (World.block_lt_of_cell? w _ hx127_0)).trans hx127_0
                   replace p127 := eq_true p127
                   replace q127 := eq_true q127
                   have p128 : 0 ≤ ((rd ((rd_T48 l0 a1).f1) x6_1) : Int) := of_decide_eq_true (by first | (with_reducible assumption) | assumption)
                   have q128 : (rd ((rd_T48 l0 a1).f1) x6_1) < (l0.length : Int) := of_decide_eq_true (by first | (with_reducible assumption) | assumption)
                   obtain ⟨ad128, A128_1, c128_1, A128_31, c128_31, e128, hx128_0, hx128_1, -, -, -, -, -, -, -, -, -, -, -, -, -, -, -, -, -, -, -, -, hx128_22, -, -, -, -, -, -, -, -, -, -, -, hl128_1, hi128_1, hl128_31, hi128_31⟩ := at_T48 HR0.out (rd ((rd_T48 l0 a1).f1) x6_1) p128 q128
                   obtain rfl : ad125 = ad128 := (by injection e128)
                   replace hx128_0 := (HB.out.cell (World.block_lt_of_cell? w _ hx128_0)).trans hx128_0
                   replace hx128_1 := (HB.out.cell (World.block_lt_of_cell? w _ hx128_1)).trans hx128_1
                   replace hx128_22 := (HB.out.cell (World.block_lt_of_cell? w _ hx128_22)).trans hx128_22
                   have HR128_1 := Aside0.mk hi128_1
                   have HC128_1 := Aside0.mk hl128_1
                   clear hi128_1 hl128_1
                   have HR128_31 := Aside0.mk hi128_31
                   have HC128_31 := Aside0.mk hl128_31
                   clear hi128_31 hl128_31
                   replace p128 := eq_true p128
                   replace q128 := eq_true q128
                   go_wp2_with (first | ((with_reducible refine gate_builtin (b := .append) (xs := #[.tmp 32, .tmp 36]) rfl ?_); at_builtin; refine Kd.R_append k35 (w0 := w) w.heap.size rfl (.tmp 32) (.tmp 36) 25 35 (.agg #[(.int .i64 0), (.int .i64 0)]) 16 rfl Try.underlying25 info35 rfl (by decide) (by omega) u5 x5_1 (⟨rd ((rd_T48 l0 a1).f1) x6_1, a1⟩ : S35) [.int .i64 (rd ((rd_T48 l0 a1).f1) x6_1), .int .i64 a1] (fun _ => True) (fun _ => False) rfl rfl ?aP (fun _ hk => hk.elim) ?aF ?aO ?aB ?aS ?aL ?_; (case aP => exact k35_mkM _ _ _ (⟨rd ((rd_T48 l0 a1).f1) x6_1, a1⟩ : S35)); (case aB => exact (by repeat (first | exact HB.out | apply below_alloc | apply pw_below_drewN | apply below_drew1))); (case aF => exact (fun _ _ => trivial)); (case aO => exact (by (with_reducible repeat (first | apply Kd.R_alloc | apply Kd.R_drewN | apply Kd.R_drew)); exact HO_5.out)); (case aS => exact (below_size (by repeat (first | exact HB.out | apply below_alloc | apply pw_below_drewN | apply below_drew1)))); (case aL => have := LMc10.out; omega); intro v130 w11 ho hb hg hat; rw [← Ny129.out] at ho; have n0_ := Aside0.mk (hb); have n1_ := Aside0.mk (ho); clear HB; clear HO_5; have HB := n0_; have HO131 := n1_; clear n0_ n1_; clear ho hb hg hat))
                   go_roundg k1
                   case measure => have := HK1.out; omega
                   case rel => exact ⟨(y129), (wrap64 (x6_1 + 1)), (by first | rfl | (simp; done) | (simp [*]; done)), H', ⟨by have := HK1.out; omega⟩, ⟨by (with_reducible repeat (first | apply Kd.R_alloc | apply Kd.R_drewN | apply Kd.R_drew)); exact HO131.out⟩, ⟨by repeat (first | exact HB.out | apply below_alloc | apply pw_below_drewN | apply below_drew1)⟩⟩
                 · rw [if_neg c10] at H
                   exact absurd H (by simp)
               · rw [if_neg c9] at H
                 have c9b0 : (((rd_T48 l0 (rd ((rd_T48 l0 a1).f1) x6_1)).f0) == 9) = false := beq_eq_false_iff_ne.mpr c9
                 have c9b1 : (((rd_T48 l0 (rd ((rd_T48 l0 a1).f1) x6_1)).f0) != 9) = true := bne_iff_ne.mpr c9
                 have H' := Aside0.mk H
                 clear H
                 have p125 : 0 ≤ (a1 : Int) := of_decide_eq_true (by first | (with_reducible assumption) | assumption)
                 have q125 : a1 < (l0.length : Int) := of_decide_eq_true (by first | (with_reducible assumption) | assumption)
                 obtain ⟨ad125, A125_1, c125_1, A125_31, c125_31, e125, hx125_0, hx125_1, -, -, -, -, -, -, -, -, -, -, -, -, -, -, -, -, -, -, -, -, hx125_22, -, -, -, -, -, -, -, -, hx125_31, -, -, hl125_1, hi125_1, hl125_31, hi125_31⟩ := at_T48 HR0.out a1 p125 q125
                 cases e125
                 replace hx125_0 := (HB.out.cell (World.block_lt_of_cell? w _ hx125_0)).trans hx125_0
                 replace hx125_1 := (HB.out.cell (World.block_lt_of_cell? w _ hx125_1)).trans hx125_1
                 replace hx125_22 := (HB.out.cell (World.block_lt_of_cell? w _ hx125_22)).trans hx125_22
                 replace hx125_31 := (HB.out.cell (World.block_lt_of_cell? w _ hx125_31)).trans hx125_31
                 have HR125_1 := Aside0.mk hi125_1
                 have HC125_1 := Aside0.mk hl125_1
                 clear hi125_1 hl125_1
                 have HR125_31 := Aside0.mk hi125_31
                 have HC125_31 := Aside0.mk hl125_31
                 clear hi125_31 hl125_31
                 replace p125 := eq_true p125
                 replace q125 := eq_true q125
                 have p126 : 0 ≤ (a1 : Int) := of_decide_eq_true (by first | (with_reducible assumption) | assumption)
                 have q126 : a1 < (l0.length : Int) := of_decide_eq_true (by first | (with_reducible assumption) | assumption)
                 obtain ⟨ad126, A126_1, c126_1, A126_31, c126_31, e126, hx126_0, hx126_1, -, -, -, -, -, -, -, -, -, -, -, -, -, -, -, -, -, -, -, -, hx126_22, -, -, -, -, -, -, -, -, hx126_31, -, -, hl126_1, hi126_1, hl126_31, hi126_31⟩ := at_T48 HR0.out a1 p126 q126
                 obtain rfl : ad125 = ad126 := (by injection e126)
                 replace hx126_0 := (HB.out.cell (World.block_lt_of_cell? w _ hx126_0)).trans hx126_0
                 replace hx126_1 := (HB.out.cell (World.block_lt_of_cell? w _ hx126_1)).trans hx126_1
                 replace hx126_22 := (HB.out.cell (World.block_lt_of_cell? w _ hx126_22)).trans hx126_22
                 replace hx126_31 := (HB.out.cell (World.block_lt_of_cell? w _ hx126_31)).trans hx126_31
                 have HR126_1 := Aside0.mk hi126_1
                 have HC126_1 := Aside0.mk hl126_1
                 clear hi126_1 hl126_1
                 have HR126_31 := Aside0.mk hi126_31
                 have HC126_31 := Aside0.mk hl126_31
                 clear hi126_31 hl126_31
                 replace p126 := eq_true p126
                 replace q126 := eq_true q126
                 have ea_ := Option.some.inj (hx125_1.symm.trans hx126_1)
                 injection ea_ with ea_ en_ ec_
                 subst ea_
                 subst ec_
                 clear en_
                 have ea_ := Option.some.inj (hx125_31.symm.trans hx126_31)
                 injection ea_ with ea_ en_ ec_
                 subst ea_
                 subst ec_
                 clear en_
                 have p127 : 0 ≤ (x6_1 : Int) := of_decide_eq_true (by first | (with_reducible assumption) | assumption)
                 have q127 : x6_1 < (((rd_T48 l0 a1).f1).length : Int) := of_decide_eq_true (by first | (with_reducible assumption) | assumption)
                 obtain ⟨ad127, e127, hx127_0⟩ := Kd.at_int HR126_1.out x6_1 p127 q127
                 cases e127
                 replace hx127_0 := (HB.out.cell (World.block_lt_of_cell? w _ hx127_0)).trans hx127_0
                 replace p127 := eq_true p127
                 replace q127 := eq_true q127
                 have p128 : 0 ≤ ((rd ((rd_T48 l0 a1).f1) x6_1) : Int) := of_decide_eq_true (by first | (with_reducible assumption) | assumption)
                 have q128 : (rd ((rd_T48 l0 a1).f1) x6_1) < (l0.length : Int) := of_decide_eq_true (by first | (with_reducible assumption) | assumption)
                 obtain ⟨ad128, A128_1, c128_1, A128_31, c128_31, e128, hx128_0, hx128_1, -, -, -, -, -, -, -, -, -, -, -, -, -, -, -, -, -, -, -, -, hx128_22, -, -, -, -, -, -, -, -, -, -, -, hl128_1, hi128_1, hl128_31, hi128_31⟩ := at_T48 HR0.out (rd ((rd_T48 l0 a1).f1) x6_1) p128 q128
                 obtain rfl : ad125 = ad128 := (by injection e128)
                 replace hx128_0 := (HB.out.cell (World.block_lt_of_cell? w _ hx128_0)).trans hx128_0
                 replace hx128_1 := (HB.out.cell (World.block_lt_of_cell? w _ hx128_1)).trans hx128_1
                 replace hx128_22 := (HB.out.cell (World.block_lt_of_cell? w _ hx128_22)).trans hx128_22
                 have HR128_1 := Aside0.mk hi128_1
                 have HC128_1 := Aside0.mk hl128_1
                 clear hi128_1 hl128_1
                 have HR128_31 := Aside0.mk hi128_31
                 have HC128_31 := Aside0.mk hl128_31
                 clear hi128_31 hl128_31
                 replace p128 := eq_true p128
                 replace q128 := eq_true q128
                 go_wp2
                 go_roundg k1
                 case measure => have := HK1.out; omega
                 case rel => exact ⟨(x5_1), (wrap64 (x6_1 + 1)), (by first | rfl | (simp; done) | (simp [*]; done)), H', ⟨by have := HK1.out; omega⟩, ⟨by (with_reducible repeat (first | apply Kd.R_alloc | apply Kd.R_drewN | apply Kd.R_drew)); exact HO_5.out⟩, ⟨by repeat (first | exact HB.out | apply below_alloc | apply pw_below_drewN | apply below_drew1)⟩⟩
             · rw [if_neg c8] at H
               exact absurd H (by simp)
           · rw [if_neg c7] at H
             exact absurd H (by simp)
         · rw [if_neg c6] at H
           exact absurd H (by simp)
       · rw [if_neg c5] at H
         have c5b0 : decide (x6_1 < (((rd_T48 l0 a1).f1).length : Int)) = false := decide_eq_false c5
         clear c5
         obtain rfl := Option.some.inj H
         have p125 : 0 ≤ (a1 : Int) := of_decide_eq_true (by first | (with_reducible assumption) | assumption)
         have q125 : a1 < (l0.length : Int) := of_decide_eq_true (by first | (with_reducible assumption) | assumption)
         obtain ⟨ad125, A125_1, c125_1, A125_31, c125_31, e125, hx125_0, hx125_1, -, -, -, -, -, -, -, -, -, -, -, -, -, -, -, -, -, -, -, -, hx125_22, -, -, -, -, -, -, -, -, hx125_31, -, -, hl125_1, hi125_1, hl125_31, hi125_31⟩ := at_T48 HR0.out a1 p125 q125
         cases e125
         replace hx125_0 := (HB.out.cell (World.block_lt_of_cell? w _ hx125_0)).trans hx125_0
         replace hx125_1 := (HB.out.cell (World.block_lt_of_cell? w _ hx125_1)).trans hx125_1
         replace hx125_22 := (HB.out.cell (World.block_lt_of_cell? w _ hx125_22)).trans hx125_22
         replace hx125_31 := (HB.out.cell (World.block_lt_of_cell? w _ hx125_31)).trans hx125_31
         have HR125_1 := Aside0.mk hi125_1
         have HC125_1 := Aside0.mk hl125_1
         clear hi125_1 hl125_1
         have HR125_31 := Aside0.mk hi125_31
         have HC125_31 := Aside0.mk hl125_31
         clear hi125_31 hl125_31
         replace p125 := eq_true p125
         replace q125 := eq_true q125
         go_wp2
         go_ret
         exact ⟨_, by first | rfl | (simp [errW_none, errW_some] <;> rfl) | (simp [*, errW_none, errW_some] <;> rfl), by (with_reducible repeat (first | apply Kd.R_alloc | apply Kd.R_drewN | apply Kd.R_drew)); exact HO_5.out, by repeat (first | exact HB.out | apply below_alloc | apply pw_below_drewN | apply below_drew1)⟩
     · rw [if_neg c4] at H
       exact absurd H (by simp)
   · rw [if_neg c3] at H
     exact absurd H (by simp)
end Go.Proofs.Ytdmnaehgngpikaa.K
