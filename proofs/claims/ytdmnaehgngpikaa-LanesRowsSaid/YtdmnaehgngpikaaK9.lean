-- PRINTED by print.py (a twelfth state) out of the translation. Not trusted: Lean checks it.
import Derived.Test.YtdmnaehgngpikaaK0
namespace Go.Proofs.Ytdmnaehgngpikaa.K
open Go.RowKit Go.Proofs.YtdmnaehgngpikaaW.PrintWords Go.Proofs.YtdmnaehgngpikaaW.PrintLast Go.Proofs.YtdmnaehgngpikaaW.PrintMore
attribute [local go_sem] max2_int min2_int max_two min_two max_three min_three max_four min_four   -- for this text's walks alone
set_option linter.unusedVariables false
set_option linter.unusedSimpArgs false
/-! ### purflingref06_Captions: function 20 -/
def purflingref06_Captions.l0 : Nat → List (S48) → Int → List Int → Int → Option (List Int)
 | 0, _, _, _, _ => none
 | k + 1, x0, x1, x5, x6 => if 0 ≤ x1 then (if x1 < (x0.length : Int) then (if x6 < (((rd_T48 x0 x1).f1).length : Int) then (if 0 ≤ x6 then (if 0 ≤ (rd ((rd_T48 x0 x1).f1) x6) then (if (rd ((rd_T48 x0 x1).f1) x6) < (x0.length : Int) then (if ((rd_T48 x0 (rd ((rd_T48 x0 x1).f1) x6)).f0) = 3 then (if x5.length < 17592186044416 then (purflingref06_Captions.l0 k x0 x1 (x5 ++ [rd ((rd_T48 x0 x1).f1) x6]) (wrap64 (x6 + 1))) else (none)) else (purflingref06_Captions.l0 k x0 x1 x5 (wrap64 (x6 + 1)))) else (none)) else (none)) else (none)) else (some x5)) else (none)) else (none)
def purflingref06_Captions.f (k : Nat) (l0 : List (S48)) (a1 : Int) : Option (List Int) := purflingref06_Captions.l0 k l0 a1 ([] : List Int) 0
set_option maxHeartbeats 8000000 in
set_option maxRecDepth 100000 in
theorem purflingref06_Captions.calls (k : Nat) (A0 : Option Addr) (c0 : Nat) (l0 : List (S48)) (a1 : Int) (r : List Int) (w : World) (hr0 : Kd.C k48 w A0 l0.length l0) (hc0 : l0.length ≤ c0) (h : purflingref06_Captions.f k l0 a1 = some r) :
 Calls Try.prog 20 #[.slice A0 l0.length c0, .int .i64 a1] w fun e w' => ∃ v0_ : Value, e = .returned (v0_) ∧ Kd.R (Kd.int .i64) 3 w' w.heap.size (fun _ => True) v0_ r ∧ Below w.heap.size w w' := by
 have HR0 := Aside0.mk hr0
 have HC0 := Aside0.mk hc0
 clear hr0 hc0
 have HB := Aside0.mk (Below.refl w.heap.size w)
 have H : (purflingref06_Captions.l0 k l0 a1 ([] : List Int) 0) = some r := h
 clear h
 have H' := Aside0.mk H
 clear H
 go_enter Try.func20, Try.ntmps20
 go_wp2
 go_loopg [5, 6] k (fun kq v5 v6 w' => ∃ (x5_1 : List Int) (x6_1 : Int), v6 = .int .i64 x6_1 ∧ Aside0 (purflingref06_Captions.l0 kq l0 a1 x5_1 x6_1 = some r) ∧ Aside0 (kq ≤ k) ∧ Aside0 (Kd.R (Kd.int .i64) 3 w' w.heap.size (fun _ => True) v5 x5_1) ∧ Aside0 (Below w.heap.size w w'))
 case atStart => exact ⟨(([] : List Int)), (0), (by first | rfl | (simp; done) | (simp [*]; done)), H', ⟨Nat.le_refl _⟩, ⟨by first | exact Kd.R_nil _ _ _ _ _ | exact Kd.N_nil _ _ _ _ _ | exact Kd.V_nil _ _ _ _ _ | exact Kd.Q_nil _ _ _ _ _ | exact Kd.S_nil _ _ _ _ _⟩, ⟨by repeat (first | exact HB.out | apply below_alloc | apply pw_below_drewN | apply below_drew1)⟩⟩
 case round =>
  clear H'
  try clear c2
  try clear p2
  obtain ⟨x5_1, x6_1, rfl, HA, HK1, HO_5, HB⟩ := hrel
  cases gk with
  | zero => exact absurd HA.out (by simp [purflingref06_Captions.l0])
  | succ k1 =>
   have H := HA.out
   clear HA
   simp only [purflingref06_Captions.l0] at H
   by_cases c3 : 0 ≤ a1
   · rw [if_pos c3] at H
     have c3b0 : decide (0 ≤ a1) = true := decide_eq_true c3
     clear c3
     by_cases c4 : a1 < (l0.length : Int)
     · rw [if_pos c4] at H
       have c4b0 : decide (a1 < (l0.length : Int)) = true := decide_eq_true c4
       clear c4
       by_cases c5 : x6_1 < (((rd_T48 l0 a1).f1).length : Int)
       · rw [if_pos c5] at H
         have c5b0 : decide (x6_1 < (((rd_T48 l0 a1).f1).length : Int)) = true := decide_eq_true c5
         clear c5
         by_cases c6 : 0 ≤ x6_1
         · rw [if_pos c6] at H
           have c6b0 : decide (0 ≤ x6_1) = true := decide_eq_true c6
           clear c6
           by_cases c7 : 0 ≤ (rd ((rd_T48 l0 a1).f1) x6_1)
           · rw [if_pos c7] at H
             have c7b0 : decide (0 ≤ (rd ((rd_T48 l0 a1).f1) x6_1)) = true := decide_eq_true c7
             clear c7
             by_cases c8 : (rd ((rd_T48 l0 a1).f1) x6_1) < (l0.length : Int)
             · rw [if_pos c8] at H
               have c8b0 : decide ((rd ((rd_T48 l0 a1).f1) x6_1) < (l0.length : Int)) = true := decide_eq_true c8
               clear c8
               by_cases c9 : ((rd_T48 l0 (rd ((rd_T48 l0 a1).f1) x6_1)).f0) = 3
               · rw [if_pos c9] at H
                 have c9b0 : (((rd_T48 l0 (rd ((rd_T48 l0 a1).f1) x6_1)).f0) == 3) = true := beq_iff_eq.mpr c9
                 have c9b1 : (((rd_T48 l0 (rd ((rd_T48 l0 a1).f1) x6_1)).f0) != 3) = false := bne_eq_false_iff_eq.mpr c9
                 clear c9
                 by_cases c10 : x5_1.length < 17592186044416
                 · rw [if_pos c10] at H
                   have LMc10 := Aside0.mk c10
                   clear c10
                   obtain ⟨y199, hy199⟩ : ∃ y_ : List Int, y_ = (x5_1 ++ [rd ((rd_T48 l0 a1).f1) x6_1]) := ⟨_, rfl⟩
                   replace H : (purflingref06_Captions.l0 k1 l0 a1 y199 (wrap64 (x6_1 + 1))) = some r := by first | (rw [hy199]; with_reducible exact H) | (have H2_ := (Option.bind_some _ _).symm.trans H; rw [hy199]; with_reducible exact H2_) | (have H2_ := (Option.bind_some _ _).symm.trans H; with_reducible exact H2_) | with_reducible exact H | (rw [hy199]; exact H) | exact H
                   have Ny199 := Aside0.mk hy199
                   clear hy199
                   have H' := Aside0.mk H
                   clear H
                   have p193 : 0 ≤ (a1 : Int) := of_decide_eq_true (by first | (with_reducible assumption) | assumption)
                   have q193 : a1 < (l0.length : Int) := of_decide_eq_true (by first | (with_reducible assumption) | assumption)
                   obtain ⟨ad193, A193_1, c193_1, A193_31, c193_31, e193, hx193_0, hx193_1, -, -, -, -, -, -, -, -, -, -, -, -, -, -, -, -, -, -, -, -, hx193_22, -, -, -, -, -, -, -, -, hx193_31, -, -, hl193_1, hi193_1, hl193_31, hi193_31⟩ := at_T48 HR0.out a1 p193 q193
                   cases e193
                   replace hx193_0 := (HB.out.cell (World.block_lt_of_cell? w _ hx193_0)).trans hx193_0
                   replace hx193_1 := (HB.out.cell (World.block_lt_of_cell? w _ hx193_1)).trans hx193_1
                   replace hx193_22 := (HB.out.cell (World.block_lt_of_cell? w _ hx193_22)).trans hx193_22
                   replace hx193_31 := (HB.out.cell (World.block_lt_of_cell? w _ hx193_31)).trans hx193_31
                   have HR193_1 := Aside0.mk hi193_1
                   have HC193_1 := Aside0.mk hl193_1
                   clear hi193_1 hl193_1
                   have HR193_31 := Aside0.mk hi193_31
                   have HC193_31 := Aside0.mk hl193_31
                   clear hi193_31 hl193_31
                   replace p193 := eq_true p193
                   replace q193 := eq_true q193
                   have p194 : 0 ≤ (a1 : Int) := of_decide_eq_true (by first | (with_reducible assumption) | assumption)
                   have q194 : a1 < (l0.length : Int) := of_decide_eq_true (by first | (with_reducible assumption) | assumption)
                   obtain ⟨ad194, A194_1, c194_1, A194_31, c194_31, e194, hx194_0, hx194_1, -, -, -, -, -, -, -, -, -, -, -, -, -, -, -, -, -, -, -, -, hx194_22, -, -, -, -, -, -, -, -, hx194_31, -, -, hl194_1, hi194_1, hl194_31, hi194_31⟩ := at_T48 HR0.out a1 p194 q194
                   obtain rfl : ad193 = ad194 := (by injection e194)
                   replace hx194_0 := (HB.out.cell (World.block_lt_of_cell? w _ hx194_0)).trans hx194_0
                   replace hx194_1 := (HB.out.cell (World.block_lt_of_cell? w _ hx194_1)).trans hx194_1
                   replace hx194_22 := (HB.out.cell (World.block_lt_of_cell? w _ hx194_22)).trans hx194_22
                   replace hx194_31 := (HB.out.cell (World.block_lt_of_cell? w _ hx194_31)).trans hx194_31
                   have HR194_1 := Aside0.mk hi194_1
                   have HC194_1 := Aside0.mk hl194_1
                   clear hi194_1 hl194_1
                   have HR194_31 := Aside0.mk hi194_31
                   have HC194_31 := Aside0.mk hl194_31
                   clear hi194_31 hl194_31
                   replace p194 := eq_true p194
                   replace q194 := eq_true q194
                   have ea_ := Option.some.inj (hx193_1.symm.trans hx194_1)
                   injection ea_ with ea_ en_ ec_
                   subst ea_
                   subst ec_
                   clear en_
                   have ea_ := Option.some.inj (hx193_31.symm.trans hx194_31)
                   injection ea_ with ea_ en_ ec_
                   subst ea_
                   subst ec_
                   clear en_
                   have p195 : 0 ≤ (x6_1 : Int) := of_decide_eq_true (by first | (with_reducible assumption) | assumption)
                   have q195 : x6_1 < (((rd_T48 l0 a1).f1).length : Int) := of_decide_eq_true (by first | (with_reducible assumption) | assumption)
                   obtain ⟨ad195, e195, hx195_0⟩ := Kd.at_int HR194_1.out x6_1 p195 q195
                   cases e195
                   replace hx195_0 := (HB.out.cell (World.block_lt_of_cell? w _ hx195_0)).trans hx195_0
                   replace p195 := eq_true p195
                   replace q195 := eq_true q195
                   have p196 : 0 ≤ ((rd ((rd_T48 l0 a1).f1) x6_1) : Int) := of_decide_eq_true (by first | (with_reducible assumption) | assumption)
                   have q196 : (rd ((rd_T48 l0 a1).f1) x6_1) < (l0.length : Int) := of_decide_eq_true (by first | (with_reducible assumption) | assumption)
                   obtain ⟨ad196, A196_1, c196_1, A196_31, c196_31, e196, hx196_0, hx196_1, -, -, -, -, -, -, -, -, -, -, -, -, -, -, -, -, -, -, -, -, hx196_22, -, -, -, -, -, -, -, -, -, -, -, hl196_1, hi196_1, hl196_31, hi196_31⟩ := at_T48 HR0.out (rd ((rd_T48 l0 a1).f1) x6_1) p196 q196
                   obtain rfl : ad193 = ad196 := (by injection e196)
                   replace hx196_0 := (HB.out.cell (World.block_lt_of_cell? w _ hx196_0)).trans hx196_0
                   replace hx196_1 := (HB.out.cell (World.block_lt_of_cell? w _ hx196_1)).trans hx196_1
                   replace hx196_22 := (HB.out.cell (World.block_lt_of_cell? w _ hx196_22)).trans hx196_22
                   have HR196_1 := Aside0.mk hi196_1
                   have HC196_1 := Aside0.mk hl196_1
                   clear hi196_1 hl196_1
                   have HR196_31 := Aside0.mk hi196_31
                   have HC196_31 := Aside0.mk hl196_31
                   clear hi196_31 hl196_31
                   replace p196 := eq_true p196
                   replace q196 := eq_true q196
                   have p197 : 0 ≤ (a1 : Int) := of_decide_eq_true (by first | (with_reducible assumption) | assumption)
                   have q197 : a1 < (l0.length : Int) := of_decide_eq_true (by first | (with_reducible assumption) | assumption)
                   obtain ⟨ad197, A197_1, c197_1, A197_31, c197_31, e197, hx197_0, hx197_1, -, -, -, -, -, -, -, -, -, -, -, -, -, -, -, -, -, -, -, -, hx197_22, -, -, -, -, -, -, -, -, hx197_31, -, -, hl197_1, hi197_1, -, -⟩ := at_T48 HR0.out a1 p197 q197
                   obtain rfl : ad193 = ad197 := (by injection e197)
                   replace hx197_0 := (HB.out.cell (World.block_lt_of_cell? w _ hx197_0)).trans hx197_0
                   replace hx197_1 := (HB.out.cell (World.block_lt_of_cell? w _ hx197_1)).trans hx197_1
                   replace hx197_22 := (HB.out.cell (World.block_lt_of_cell? w _ hx197_22)).trans hx197_22
                   replace hx197_31 := (HB.out.cell (World.block_lt_of_cell? w _ hx197_31)).trans hx197_31
                   have HR197_1 := Aside0.mk hi197_1
                   have HC197_1 := Aside0.mk hl197_1
                   clear hi197_1 hl197_1
                   replace p197 := eq_true p197
                   replace q197 := eq_true q197
                   have ea_ := Option.some.inj (hx193_1.symm.trans hx197_1)
                   injection ea_ with ea_ en_ ec_
                   subst ea_
                   subst ec_
                   clear en_
                   have ea_ := Option.some.inj (hx193_31.symm.trans hx197_31)
                   injection ea_ with ea_ en_ ec_
                   subst ea_
                   subst ec_
                   clear en_
                   have p198 : 0 ≤ (x6_1 : Int) := of_decide_eq_true (by first | (with_reducible assumption) | assumption)
                   have q198 : x6_1 < (((rd_T48 l0 a1).f1).length : Int) := of_decide_eq_true (by first | (with_reducible assumption) | assumption)
                   obtain ⟨ad198, e198, hx198_0⟩ := Kd.at_int HR197_1.out x6_1 p198 q198
                   cases e198
                   replace hx198_0 := (HB.out.cell (World.block_lt_of_cell? w _ hx198_0)).trans hx198_0
                   replace p198 := eq_true p198
                   replace q198 := eq_true q198
                   go_wp2_with (first | ((with_reducible refine gate_builtin (b := .append) (xs := #[.tmp 30, .tmp 39]) rfl ?_); at_builtin; refine Kd.R_append (Kd.int .i64) (w0 := w) w.heap.size rfl (.tmp 30) (.tmp 39) 33 3 (.int .i64 0) 8 rfl Try.underlying33 info3 rfl (by decide) (by omega) u5 x5_1 (rd ((rd_T48 l0 a1).f1) x6_1) [.int .i64 (rd ((rd_T48 l0 a1).f1) x6_1)] (fun _ => True) (fun _ => False) rfl rfl ?aP (fun _ hk => hk.elim) ?aF ?aO ?aB ?aS ?aL ?_; (case aP => exact rfl); (case aB => exact (by repeat (first | exact HB.out | apply below_alloc | apply pw_below_drewN | apply below_drew1))); (case aF => exact (fun _ _ => trivial)); (case aO => exact (by (with_reducible repeat (first | apply Kd.R_alloc | apply Kd.R_drewN | apply Kd.R_drew)); exact HO_5.out)); (case aS => exact (below_size (by repeat (first | exact HB.out | apply below_alloc | apply pw_below_drewN | apply below_drew1)))); (case aL => have := LMc10.out; omega); intro v200 w11 ho hb hg hat; rw [← Ny199.out] at ho; have n0_ := Aside0.mk (hb); have n1_ := Aside0.mk (ho); clear HB; clear HO_5; have HB := n0_; have HO201 := n1_; clear n0_ n1_; clear ho hb hg hat))
                   go_roundg k1
                   case measure => have := HK1.out; omega
                   case rel => exact ⟨(y199), (wrap64 (x6_1 + 1)), (by first | rfl | (simp; done) | (simp [*]; done)), H', ⟨by have := HK1.out; omega⟩, ⟨by (with_reducible repeat (first | apply Kd.R_alloc | apply Kd.R_drewN | apply Kd.R_drew)); exact HO201.out⟩, ⟨by repeat (first | exact HB.out | apply below_alloc | apply pw_below_drewN | apply below_drew1)⟩⟩
                 · rw [if_neg c10] at H
                   exact absurd H (by simp)
               · rw [if_neg c9] at H
                 have c9b0 : (((rd_T48 l0 (rd ((rd_T48 l0 a1).f1) x6_1)).f0) == 3) = false := beq_eq_false_iff_ne.mpr c9
                 have c9b1 : (((rd_T48 l0 (rd ((rd_T48 l0 a1).f1) x6_1)).f0) != 3) = true := bne_iff_ne.mpr c9
                 have H' := Aside0.mk H
                 clear H
                 have p193 : 0 ≤ (a1 : Int) := of_decide_eq_true (by first | (with_reducible assumption) | assumption)
                 have q193 : a1 < (l0.length : Int) := of_decide_eq_true (by first | (with_reducible assumption) | assumption)
                 obtain ⟨ad193, A193_1, c193_1, A193_31, c193_31, e193, hx193_0, hx193_1, -, -, -, -, -, -, -, -, -, -, -, -, -, -, -, -, -, -, -, -, hx193_22, -, -, -, -, -, -, -, -, hx193_31, -, -, hl193_1, hi193_1, hl193_31, hi193_31⟩ := at_T48 HR0.out a1 p193 q193
                 cases e193
                 replace hx193_0 := (HB.out.cell (World.block_lt_of_cell? w _ hx193_0)).trans hx193_0
                 replace hx193_1 := (HB.out.cell (World.block_lt_of_cell? w _ hx193_1)).trans hx193_1
                 replace hx193_22 := (HB.out.cell (World.block_lt_of_cell? w _ hx193_22)).trans hx193_22
                 replace hx193_31 := (HB.out.cell (World.block_lt_of_cell? w _ hx193_31)).trans hx193_31
                 have HR193_1 := Aside0.mk hi193_1
                 have HC193_1 := Aside0.mk hl193_1
                 clear hi193_1 hl193_1
                 have HR193_31 := Aside0.mk hi193_31
                 have HC193_31 := Aside0.mk hl193_31
                 clear hi193_31 hl193_31
                 replace p193 := eq_true p193
                 replace q193 := eq_true q193
                 have p194 : 0 ≤ (a1 : Int) := of_decide_eq_true (by first | (with_reducible assumption) | assumption)
                 have q194 : a1 < (l0.length : Int) := of_decide_eq_true (by first | (with_reducible assumption) | assumption)
                 obtain ⟨ad194, A194_1, c194_1, A194_31, c194_31, e194, hx194_0, hx194_1, -, -, -, -, -, -, -, -, -, -, -, -, -, -, -, -, -, -, -, -, hx194_22, -, -, -, -, -, -, -, -, hx194_31, -, -, hl194_1, hi194_1, hl194_31, hi194_31⟩ := at_T48 HR0.out a1 p194 q194
                 obtain rfl : ad193 = ad194 := (by injection e194)
                 replace hx194_0 := (HB.out.cell (World.block_lt_of_cell? w _ hx194_0)).trans hx194_0
                 replace hx194_1 := (HB.out.cell (World.block_lt_of_cell? w _ hx194_1)).trans hx194_1
                 replace hx194_22 := (HB.out.cell (World.block_lt_of_cell? w _ hx194_22)).trans hx194_22
                 replace hx194_31 := (HB.out.cell (World.block_lt_of_cell? w _ hx194_31)).trans hx194_31
                 have HR194_1 := Aside0.mk hi194_1
                 have HC194_1 := Aside0.mk hl194_1
                 clear hi194_1 hl194_1
                 have HR194_31 := Aside0.mk hi194_31
                 have HC194_31 := Aside0.mk hl194_31
                 clear hi194_31 hl194_31
                 replace p194 := eq_true p194
                 replace q194 := eq_true q194
                 have ea_ := Option.some.inj (hx193_1.symm.trans hx194_1)
                 injection ea_ with ea_ en_ ec_
                 subst ea_
                 subst ec_
                 clear en_
                 have ea_ := Option.some.inj (hx193_31.symm.trans hx194_31)
                 injection ea_ with ea_ en_ ec_
                 subst ea_
                 subst ec_
                 clear en_
                 have p195 : 0 ≤ (x6_1 : Int) := of_decide_eq_true (by first | (with_reducible assumption) | assumption)
                 have q195 : x6_1 < (((rd_T48 l0 a1).f1).length : Int) := of_decide_eq_true (by first | (with_reducible assumption) | assumption)
                 obtain ⟨ad195, e195, hx195_0⟩ := Kd.at_int HR194_1.out x6_1 p195 q195
                 cases e195
                 replace hx195_0 := (HB.out.cell (World.block_lt_of_cell? w _ hx195_0)).trans hx195_0
                 replace p195 := eq_true p195
                 replace q195 := eq_true q195
                 have p196 : 0 ≤ ((rd ((rd_T48 l0 a1).f1) x6_1) : Int) := of_decide_eq_true (by first | (with_reducible assumption) | assumption)
                 have q196 : (rd ((rd_T48 l0 a1).f1) x6_1) < (l0.length : Int) := of_decide_eq_true (by first | (with_reducible assumption) | assumption)
                 obtain ⟨ad196, A196_1, c196_1, A196_31, c196_31, e196, hx196_0, hx196_1, -, -, -, -, -, -, -, -, -, -, -, -, -, -, -, -, -, -, -, -, hx196_22, -, -, -, -, -, -, -, -, -, -, -, hl196_1, hi196_1, hl196_31, hi196_31⟩ := at_T48 HR0.out (rd ((rd_T48 l0 a1).f1) x6_1) p196 q196
                 obtain rfl : ad193 = ad196 := (by injection e196)
                 replace hx196_0 := (HB.out.cell (World.block_lt_of_cell? w _ hx196_0)).trans hx196_0
                 replace hx196_1 := (HB.out.cell (World.block_lt_of_cell? w _ hx196_1)).trans hx196_1
                 replace hx196_22 := (HB.out.cell (World.block_lt_of_cell? w _ hx196_22)).trans hx196_22
                 have HR196_1 := Aside0.mk hi196_1
                 have HC196_1 := Aside0.mk hl196_1
                 clear hi196_1 hl196_1
                 have HR196_31 := Aside0.mk hi196_31
                 have HC196_31 := Aside0.mk hl196_31
                 clear hi196_31 hl196_31
                 replace p196 := eq_true p196
                 replace q196 := eq_true q196
                 go_wp2
                 go_roundg k1
                 case measure => have := HK1.out; omega
                 case rel => exact ⟨(x5_1), (wrap64 (x6_1 + 1)), (by first | rfl | (simp; done) | (simp [*]; done)), H', ⟨by have := HK1.out; omega⟩, ⟨by (with_reducible repeat (first | apply Kd.R_alloc | apply Kd.R_drewN | apply Kd.R_drew)); exact HO_5.out⟩, ⟨by repeat (first | exact HB.out | apply below_alloc | apply pw_below_drewN | apply below_drew1)⟩⟩
             · rw [if_neg c8] at H
               exact absurd H (by simp)
           · rw [if_neg c7] at H
             exact absurd H (by simp)
         · rw [if_neg c6] at H
           exact absurd H (by simp)
       · rw [if_neg c5] at H
         have c5b0 : decide (x6_1 < (((rd_T48 l0 a1).f1).length : Int)) = false := decide_eq_false c5
         clear c5
         obtain rfl := Option.some.inj H
         have p193 : 0 ≤ (a1 : Int) := of_decide_eq_true (by first | (with_reducible assumption) | assumption)
         have q193 : a1 < (l0.length : Int) := of_decide_eq_true (by first | (with_reducible assumption) | assumption)
         obtain ⟨ad193, A193_1, c193_1, A193_31, c193_31, e193, hx193_0, hx193_1, -, -, -, -, -, -, -, -, -, -, -, -, -, -, -, -, -, -, -, -, hx193_22, -, -, -, -, -, -, -, -, hx193_31, -, -, hl193_1, hi193_1, hl193_31, hi193_31⟩ := at_T48 HR0.out a1 p193 q193
         cases e193
         replace hx193_0 := (HB.out.cell (World.block_lt_of_cell? w _ hx193_0)).trans hx193_0
         replace hx193_1 := (HB.out.cell (World.block_lt_of_cell? w _ hx193_1)).trans hx193_1
         replace hx193_22 := (HB.out.cell (World.block_lt_of_cell? w _ hx193_22)).trans hx193_22
         replace hx193_31 := (HB.out.cell (World.block_lt_of_cell? w _ hx193_31)).trans hx193_31
         have HR193_1 := Aside0.mk hi193_1
         have HC193_1 := Aside0.mk hl193_1
         clear hi193_1 hl193_1
         have HR193_31 := Aside0.mk hi193_31
         have HC193_31 := Aside0.mk hl193_31
         clear hi193_31 hl193_31
         replace p193 := eq_true p193
         replace q193 := eq_true q193
         go_wp2
         go_ret
         exact ⟨_, by first | rfl | (simp [errW_none, errW_some] <;> rfl) | (simp [*, errW_none, errW_some] <;> rfl), by (with_reducible repeat (first | apply Kd.R_alloc | apply Kd.R_drewN | apply Kd.R_drew)); exact HO_5.out, by repeat (first | exact HB.out | apply below_alloc | apply pw_below_drewN | apply below_drew1)⟩
     · rw [if_neg c4] at H
       exact absurd H (by simp)
   · rw [if_neg c3] at H
     exact absurd H (by simp)
end Go.Proofs.Ytdmnaehgngpikaa.K
