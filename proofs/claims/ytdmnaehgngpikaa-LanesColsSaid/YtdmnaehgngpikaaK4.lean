-- PRINTED by print.py (a twelfth state) out of the translation. Not trusted: Lean checks it.
import Derived.Test.YtdmnaehgngpikaaTrA
import Derived.Test.YtdmnaehgngpikaaK0
namespace Go.Proofs.Ytdmnaehgngpikaa.K
open Go.RowKit Go.Proofs.YtdmnaehgngpikaaW.PrintWords Go.Proofs.YtdmnaehgngpikaaW.PrintLast Go.Proofs.YtdmnaehgngpikaaW.PrintMore
attribute [local go_sem] max2_int min2_int max_two min_two max_three min_three max_four min_four   -- for this text's walks alone
set_option linter.unusedVariables false
set_option linter.unusedSimpArgs false
/-! ### bits_Mul64: function 49 -/
def bits_Mul64.f (a0 : Int) (a1 : Int) : Option (Int × Int) := some (IntKind.u64.wrap ((IntKind.u64.wrap ((IntKind.u64.wrap ((a0 / 4294967296) * (a1 / 4294967296))) + ((IntKind.u64.wrap ((IntKind.u64.wrap ((a0 / 4294967296) * (Go.bits .and .u64 a1 4294967295))) + ((IntKind.u64.wrap ((Go.bits .and .u64 a0 4294967295) * (Go.bits .and .u64 a1 4294967295))) / 4294967296))) / 4294967296))) + ((IntKind.u64.wrap ((Go.bits .and .u64 (IntKind.u64.wrap ((IntKind.u64.wrap ((a0 / 4294967296) * (Go.bits .and .u64 a1 4294967295))) + ((IntKind.u64.wrap ((Go.bits .and .u64 a0 4294967295) * (Go.bits .and .u64 a1 4294967295))) / 4294967296))) 4294967295) + (IntKind.u64.wrap ((Go.bits .and .u64 a0 4294967295) * (a1 / 4294967296))))) / 4294967296)), IntKind.u64.wrap (a0 * a1))
set_option maxHeartbeats 8000000 in
set_option maxRecDepth 100000 in
theorem bits_Mul64.calls (a0 : Int) (a1 : Int) (r1 : Int) (r2 : Int) (w : World) (h : bits_Mul64.f a0 a1 = some (r1, r2)) :
 Calls Try.prog 49 #[.int .u64 a0, .int .u64 a1] w fun e w' => e = .returned (.tuple #[.int .u64 r1, .int .u64 r2]) ∧ Drawn0 w w' := by
 have H : (some (IntKind.u64.wrap ((IntKind.u64.wrap ((IntKind.u64.wrap ((a0 / 4294967296) * (a1 / 4294967296))) + ((IntKind.u64.wrap ((IntKind.u64.wrap ((a0 / 4294967296) * (Go.bits .and .u64 a1 4294967295))) + ((IntKind.u64.wrap ((Go.bits .and .u64 a0 4294967295) * (Go.bits .and .u64 a1 4294967295))) / 4294967296))) / 4294967296))) + ((IntKind.u64.wrap ((Go.bits .and .u64 (IntKind.u64.wrap ((IntKind.u64.wrap ((a0 / 4294967296) * (Go.bits .and .u64 a1 4294967295))) + ((IntKind.u64.wrap ((Go.bits .and .u64 a0 4294967295) * (Go.bits .and .u64 a1 4294967295))) / 4294967296))) 4294967295) + (IntKind.u64.wrap ((Go.bits .and .u64 a0 4294967295) * (a1 / 4294967296))))) / 4294967296)), IntKind.u64.wrap (a0 * a1))) = some (r1, r2) := h
 clear h
 simp only [Option.some.injEq, Prod.mk.injEq] at H
 obtain ⟨rfl, rfl⟩ := H
 go_enter Try.func49, Try.ntmps49
 go_wp2
 go_ret2
 exact ⟨by first | rfl | (simp; done) | (simp [*]; done), by repeat (first | exact Drawn0.refl _ | apply Drawn0.step)⟩
/-! ### bits_Mul: function 38 -/
def bits_Mul.f (a0 : Int) (a1 : Int) : Option (Int × Int) := (bits_Mul64.f a0 a1).bind fun bt107 => (some (bt107.1, bt107.2))
set_option maxHeartbeats 8000000 in
set_option maxRecDepth 100000 in
theorem bits_Mul.calls (a0 : Int) (a1 : Int) (r1 : Int) (r2 : Int) (w : World) (h : bits_Mul.f a0 a1 = some (r1, r2)) :
 Calls Try.prog 38 #[.int .u64 a0, .int .u64 a1] w fun e w' => e = .returned (.tuple #[.int .u64 r1, .int .u64 r2]) ∧ Drawn0 w w' := by
 have H : ((bits_Mul64.f a0 a1).bind fun bt107 => (some (bt107.1, bt107.2))) = some (r1, r2) := h
 clear h
 replace H := Option.bind_eq_some_iff.mp H
 obtain ⟨⟨t107, t108⟩, A30, H⟩ := H
 replace H : (some (t107, t108)) = some (r1, r2) := H
 have A3 := Aside0.mk A30
 clear A30
 simp only [Option.some.injEq, Prod.mk.injEq] at H
 obtain ⟨rfl, rfl⟩ := H
 go_enter Try.func38, Try.ntmps38
 go_wp2_with (first | ((with_reducible refine gate_callee (f := 49) rfl ?_); refine goesL_ (some 25) rfl rfl Try.func49 (by kernel_rfl) rfl #[.int .u64 a0, .int .u64 a1] rfl (by (try simp only [List.map_toArray, List.map_cons, List.map_nil]); first | done | rfl) ?_; (with_reducible refine (bits_Mul64.calls a0 a1 t107 t108 _ A3.out).mono ?_); rintro e w' ⟨rfl, ⟨nd, rfl⟩⟩; refine ⟨_, rfl, ?_⟩))
 go_ret2
 exact ⟨by first | rfl | (simp; done) | (simp [*]; done), by repeat (first | exact Drawn0.refl _ | apply Drawn0.step)⟩
/-! ### purflingref06_many: function 27 -/
def purflingref06_many.l0 : Nat → List (S35) → Int → Int → Int → Int → Option ((List (S35)))
 | 0, _, _, _, _, _ => none
 | k + 1, x0, x2, x7, x110000, x110001 => if x7 < x2 then (if x0.length < 8796093022208 then (purflingref06_many.l0 k (x0 ++ [(⟨x110000, x110001⟩ : S35)]) x2 (wrap64 (x7 + 1)) x110000 x110001) else (none)) else (some x0)
def purflingref06_many.f (k : Nat) (l0 : List (S35)) (a1_0 : Int) (a1_1 : Int) (a2 : Int) : Option ((List (S35))) := purflingref06_many.l0 k l0 a2 0 a1_0 a1_1
set_option maxHeartbeats 8000000 in
set_option maxRecDepth 100000 in
theorem purflingref06_many.calls (k : Nat) (P0_ : Nat → Prop) (u9000_ : Value) (l0 : List (S35)) (a1_0 : Int) (a1_1 : Int) (a2 : Int) (r : List (S35)) (w0 w : World) (hB : Below w0.heap.size w0 w) (ho0 : Kd.R k35 35 w w0.heap.size P0_ u9000_ l0) (h : purflingref06_many.f k l0 a1_0 a1_1 a2 = some r) :
 Calls Try.prog 27 #[u9000_, .agg #[.int .i64 a1_0, .int .i64 a1_1], .int .i64 a2] w fun e w' => ∃ v0_ : Value, e = .returned (v0_) ∧ Kd.R k35 35 w' w0.heap.size (fun k_ => (P0_ k_ ∨ w.heap.size ≤ k_)) v0_ r ∧ Below w0.heap.size w0 w' ∧ Kept w w' (fun k_ => P0_ k_) := by
 have hu35 := Try.underlying35
 have HO0 := Aside0.mk (show Kd.R k35 35 w w0.heap.size (fun k_ => (P0_ k_ ∨ w.heap.size ≤ k_)) u9000_ l0 from Kd.R_mono ho0 (fun k_ hk => (.inl hk)))
 have HK := Aside0.mk (Kept.refl w (fun k_ => P0_ k_))
 have HW0 := Aside0.mk hB.size
 have HB := Aside0.mk hB
 clear hB
 have H : (purflingref06_many.l0 k l0 a2 0 a1_0 a1_1) = some r := h
 clear h
 have H' := Aside0.mk H
 clear H
 go_enter Try.func27, Try.ntmps27
 go_wp2_with (first | ((with_reducible refine gate_dst (N := 4) rfl ?_); refine box_event ?hg (N := 4) ?hd (cs := #[.int .i64 a1_0, .int .i64 a1_1]) (t := 35) ?hr ?_; (case hd => rfl); (case hg => rfl); (case hr => first | (go_simp; done) | (go_simp; rfl)); intro gb109 hg w4 hbox hb; have n0_ := Aside0.mk (Kd.R_below (Kd.R_elderB (by (with_reducible repeat (first | apply Kd.R_alloc | apply Kd.R_drewN | apply Kd.R_drew)); exact HO0.out) gb109 (Nat.le_of_eq hg.symm)) hb); have n1_ := Aside0.mk (Kept.below (S := (fun k_ => P0_ k_)) (by repeat (first | (with_reducible first | exact HK.out | apply Kept.alloc | apply Kept.drewN | apply Kept.drew) | exact HK.out)) hb); have n2_ := Aside0.mk (below_step (by repeat (first | exact HB.out | apply below_alloc | apply pw_below_drewN | apply below_drew1)) hb); have n3_ := Aside0.mk (hbox); have n4_ := Aside0.mk ((by rw [hg]; exact (by first | exact HK.out.1 | exact (show Kept w _ (fun k_ => P0_ k_) from by repeat (first | (with_reducible first | exact HK.out | apply Kept.alloc | apply Kept.drewN | apply Kept.drew) | exact HK.out)).1) : w.heap.size ≤ gb109)); have n5_ := Aside0.mk ((by rw [hg]; exact (below_size (by repeat (first | exact HB.out | apply below_alloc | apply pw_below_drewN | apply below_drew1))) : w0.heap.size ≤ gb109)); clear HO0; clear HK; clear HB; have HO0 := n0_; have HK := n1_; have HB := n2_; have BK109 := n3_; have GW109 := n4_; have GE109 := n5_; clear n0_ n1_ n2_ n3_ n4_ n5_; clear hb hbox hg))
 go_loopg [0, 7] k (fun kq v0 v7 w' => ∃ (x0_1 : List (S35)) (x7_1 : Int), v7 = .int .i64 x7_1 ∧ Aside0 (purflingref06_many.l0 kq x0_1 a2 x7_1 a1_0 a1_1 = some r) ∧ Aside0 (kq ≤ k) ∧ Aside0 (Kd.R k35 35 w' w0.heap.size (fun k_ => (P0_ k_ ∨ w.heap.size ≤ k_) ∧ k_ ≠ gb109) v0 x0_1) ∧ Aside0 (w'.heap[gb109]? = some (.cells #[.int .i64 a1_0, .int .i64 a1_1] 35 (0, 0))) ∧ Aside0 (Kept w w' (fun k_ => P0_ k_)) ∧ Aside0 (Below w0.heap.size w0 w'))
 case atStart => exact ⟨(l0), (0), (by first | rfl | (simp; done) | (simp [*]; done)), H', ⟨Nat.le_refl _⟩, ⟨by (with_reducible repeat (first | apply Kd.R_alloc | apply Kd.R_drewN | apply Kd.R_drew)); exact HO0.out⟩, ⟨by (with_reducible repeat (first | refine blk_drewN ?_ _ | refine blk_drew ?_ | refine blk_alloc ?_ _)); exact BK109.out⟩, ⟨by repeat (first | (with_reducible first | exact HK.out | apply Kept.alloc | apply Kept.drewN | apply Kept.drew | refine Kept.setCell ?_ (.inr GW109.out) _) | exact HK.out)⟩, ⟨by repeat (first | (with_reducible first | exact HB.out | apply below_alloc | apply pw_below_drewN | apply below_drew1 | refine below_set ?_ GE109.out) | exact HB.out)⟩⟩
 case round =>
  clear H'
  try clear c2
  try clear p2
  obtain ⟨x0_1, x7_1, rfl, HA, HK1, HO_0, BK109, HK, HB⟩ := hrel
  cases gk with
  | zero => exact absurd HA.out (by simp [purflingref06_many.l0])
  | succ k1 =>
   have H := HA.out
   clear HA
   simp only [purflingref06_many.l0] at H
   by_cases c5 : x7_1 < a2
   · rw [if_pos c5] at H
     have c5b0 : decide (x7_1 < a2) = true := decide_eq_true c5
     clear c5
     by_cases c6 : x0_1.length < 8796093022208
     · rw [if_pos c6] at H
       have LMc6 := Aside0.mk c6
       clear c6
       obtain ⟨y110, hy110⟩ : ∃ y_ : List (S35), y_ = (x0_1 ++ [(⟨a1_0, a1_1⟩ : S35)]) := ⟨_, rfl⟩
       replace H : (purflingref06_many.l0 k1 y110 a2 (wrap64 (x7_1 + 1)) a1_0 a1_1) = some r := by first | (rw [hy110]; with_reducible exact H) | (have H2_ := (Option.bind_some _ _).symm.trans H; rw [hy110]; with_reducible exact H2_) | (have H2_ := (Option.bind_some _ _).symm.trans H; with_reducible exact H2_) | with_reducible exact H | (rw [hy110]; exact H) | exact H
       have Ny110 := Aside0.mk hy110
       clear hy110
       have H' := Aside0.mk H
       clear H
       have hcz7_0 : wr.cell? ⟨gb109, 0, none⟩ = some (.int .i64 a1_0) := (blk_cell BK109.out 0).trans rfl
       have hcz7_1 : wr.cell? ⟨gb109, 1, none⟩ = some (.int .i64 a1_1) := (blk_cell BK109.out 1).trans rfl
       have hfz7_0 := blk_frozen BK109.out 0
       have hfz7_1 := blk_frozen BK109.out 1
       go_wp2_with (first | ((with_reducible refine gate_builtin (b := .append) (xs := #[.tmp 13, .tmp 15]) rfl ?_); at_builtin; refine Kd.R_append k35 (w0 := w0) w0.heap.size rfl (.tmp 13) (.tmp 15) 25 35 (.agg #[(.int .i64 0), (.int .i64 0)]) 16 rfl Try.underlying25 info35 rfl (by decide) (by omega) u0 x0_1 (⟨a1_0, a1_1⟩ : S35) [.int .i64 a1_0, .int .i64 a1_1] (fun k_ => (P0_ k_ ∨ w.heap.size ≤ k_) ∧ k_ ≠ gb109) (fun _ => False) rfl rfl ?aP (fun _ hk => hk.elim) ?aF ?aO ?aB ?aS ?aL ?_; (case aP => exact k35_mkM _ _ _ (⟨a1_0, a1_1⟩ : S35)); (case aB => exact (by repeat (first | (with_reducible first | exact HB.out | apply below_alloc | apply pw_below_drewN | apply below_drew1 | refine below_set ?_ GE109.out) | exact HB.out))); (case aF => exact (fun k_ hk => ⟨(.inr (Nat.le_trans (by first | exact HK.out.1 | exact (show Kept w _ (fun k_ => P0_ k_) from by repeat (first | (with_reducible first | exact HK.out | apply Kept.alloc | apply Kept.drewN | apply Kept.drew | refine Kept.setCell ?_ (.inr GW109.out) _) | exact HK.out)).1) hk)), Kd.freshB (g := gb109) (o := .cells #[.int .i64 a1_0, .int .i64 a1_1] 35 (0, 0)) (by (with_reducible repeat (first | refine blk_drewN ?_ _ | refine blk_drew ?_ | refine blk_alloc ?_ _)); exact BK109.out) k_ hk⟩)); (case aO => exact (by (with_reducible repeat (first | apply Kd.R_alloc | apply Kd.R_drewN | apply Kd.R_drew)); exact HO_0.out)); (case aS => exact (below_size (by repeat (first | (with_reducible first | exact HB.out | apply below_alloc | apply pw_below_drewN | apply below_drew1 | refine below_set ?_ GE109.out) | exact HB.out)))); (case aL => have := LMc6.out; omega); intro v111 w8 ho hb hg hat; rw [← Ny110.out] at ho; have n0_ := Aside0.mk (blk_grown (g := gb109) (o := .cells #[.int .i64 a1_0, .int .i64 a1_1] 35 (0, 0)) (by (with_reducible repeat (first | refine blk_drewN ?_ _ | refine blk_drew ?_ | refine blk_alloc ?_ _)); exact BK109.out) hg (Kd.R_away HO_0.out (fun _ hk => hk.2))); have n1_ := Aside0.mk (hb); have n2_ := Aside0.mk (Kept.of_grown (S := (fun k_ => P0_ k_)) hg (by repeat (first | (with_reducible first | exact HK.out | apply Kept.alloc | apply Kept.drewN | apply Kept.drew | refine Kept.setCell ?_ (.inr GW109.out) _) | exact HK.out)) (fun k_ e_ => (HO_0.out.1 k_ e_).1)); have n3_ := Aside0.mk (ho); clear BK109; clear HB; clear HK; clear HO_0; have BK109 := n0_; have HB := n1_; have HK := n2_; have HO112 := n3_; clear n0_ n1_ n2_ n3_; clear ho hb hg hat))
       go_roundg k1
       case measure => have := HK1.out; omega
       case rel => exact ⟨(y110), (wrap64 (x7_1 + 1)), (by first | rfl | (simp; done) | (simp [*]; done)), H', ⟨by have := HK1.out; omega⟩, ⟨by (with_reducible repeat (first | apply Kd.R_alloc | apply Kd.R_drewN | apply Kd.R_drew)); exact HO112.out⟩, ⟨by (with_reducible repeat (first | refine blk_drewN ?_ _ | refine blk_drew ?_ | refine blk_alloc ?_ _)); exact BK109.out⟩, ⟨by repeat (first | (with_reducible first | exact HK.out | apply Kept.alloc | apply Kept.drewN | apply Kept.drew | refine Kept.setCell ?_ (.inr GW109.out) _) | exact HK.out)⟩, ⟨by repeat (first | (with_reducible first | exact HB.out | apply below_alloc | apply pw_below_drewN | apply below_drew1 | refine below_set ?_ GE109.out) | exact HB.out)⟩⟩
     · rw [if_neg c6] at H
       exact absurd H (by simp)
   · rw [if_neg c5] at H
     have c5b0 : decide (x7_1 < a2) = false := decide_eq_false c5
     clear c5
     obtain rfl := Option.some.inj H
     go_wp2
     go_ret
     exact ⟨_, by first | rfl | (simp [errW_none, errW_some] <;> rfl) | (simp [*, errW_none, errW_some] <;> rfl), by (with_reducible repeat (first | apply Kd.R_alloc | apply Kd.R_drewN | apply Kd.R_drew)); exact Kd.R_mono HO_0.out (fun _ hk => hk.1), by repeat (first | (with_reducible first | exact HB.out | apply below_alloc | apply pw_below_drewN | apply below_drew1 | refine below_set ?_ GE109.out) | exact HB.out), by repeat (first | (with_reducible first | exact HK.out | apply Kept.alloc | apply Kept.drewN | apply Kept.drew | refine Kept.setCell ?_ (.inr GW109.out) _) | exact HK.out)⟩
/-! ### purflingref06_span: function 28 -/
def purflingref06_span.f (l0 : List (S48)) (a1 : Int) : Option (Int) := if 0 ≤ a1 then (if a1 < (l0.length : Int) then (some (mx ((rd_T48 l0 a1).f2.f4) 1)) else (none)) else (none)
set_option maxHeartbeats 8000000 in
set_option maxRecDepth 100000 in
theorem purflingref06_span.calls (A0 : Option Addr) (c0 : Nat) (l0 : List (S48)) (a1 : Int) (r : Int) (w : World) (hr0 : Kd.C k48 w A0 l0.length l0) (hc0 : l0.length ≤ c0) (h : purflingref06_span.f l0 a1 = some r) :
 Calls Try.prog 28 #[.slice A0 l0.length c0, .int .i64 a1] w fun e w' => e = .returned (.int .i64 r) ∧ Below w.heap.size w w' := by
 have HR0 := Aside0.mk hr0
 have HC0 := Aside0.mk hc0
 clear hr0 hc0
 have HB := Aside0.mk (Below.refl w.heap.size w)
 have H : (if 0 ≤ a1 then (if a1 < (l0.length : Int) then (some (mx ((rd_T48 l0 a1).f2.f4) 1)) else (none)) else (none)) = some r := h
 clear h
 by_cases c3 : 0 ≤ a1
 · rw [if_pos c3] at H
   have c3b0 : decide (0 ≤ a1) = true := decide_eq_true c3
   clear c3
   by_cases c4 : a1 < (l0.length : Int)
   · rw [if_pos c4] at H
     have c4b0 : decide (a1 < (l0.length : Int)) = true := decide_eq_true c4
     clear c4
     obtain ⟨ji5, hji5⟩ : ∃ j_ : Int, (mx ((rd_T48 l0 a1).f2.f4) 1) = j_ := ⟨_, rfl⟩
     replace H : (some ji5) = some r := by first | (rw [hji5] at H; exact H) | (simp only [hji5] at H ⊢; exact H)
     (try (have hji5l : 1 ≤ ji5 := by (rw [← hji5]; unfold mx; (repeat' split) <;> omega)))
     (try (have hji5m : 0 ≤ ji5 := by omega))
     have hji5_ : (if ((rd_T48 l0 a1).f2.f4) < 1 then 1 else ((rd_T48 l0 a1).f2.f4)) = ji5 := hji5
     obtain rfl := Option.some.inj H
     have p113 : 0 ≤ (a1 : Int) := of_decide_eq_true (by first | (with_reducible assumption) | assumption)
     have q113 : a1 < (l0.length : Int) := of_decide_eq_true (by first | (with_reducible assumption) | assumption)
     obtain ⟨ad113, A113_1, c113_1, A113_31, c113_31, e113, hx113_0, hx113_1, hx113_2, hx113_3, hx113_4, hx113_5, hx113_6, hx113_7, hx113_8, hx113_9, hx113_10, hx113_11, hx113_12, hx113_13, hx113_14, hx113_15, hx113_16, hx113_17, hx113_18, hx113_19, hx113_20, hx113_21, hx113_22, hx113_23, hx113_24, hx113_25, hx113_26, hx113_27, hx113_28, hx113_29, hx113_30, hx113_31, hx113_32, hx113_33, hl113_1, hi113_1, hl113_31, hi113_31⟩ := at_T48 HR0.out a1 p113 q113
     cases e113
     have HR113_1 := Aside0.mk hi113_1
     have HC113_1 := Aside0.mk hl113_1
     clear hi113_1 hl113_1
     have HR113_31 := Aside0.mk hi113_31
     have HC113_31 := Aside0.mk hl113_31
     clear hi113_31 hl113_31
     replace p113 := eq_true p113
     replace q113 := eq_true q113
     go_enter Try.func28, Try.ntmps28
     go_wp2
     go_ret
     exact ⟨by first | rfl | (simp [errW_none, errW_some] <;> rfl) | (simp only [← hji5]; first | rfl | (simp [errW_none, errW_some] <;> rfl)) | (simp [*, errW_none, errW_some] <;> rfl), by repeat (first | exact HB.out | apply below_alloc | apply pw_below_drewN | apply below_drew1)⟩
   · rw [if_neg c4] at H
     exact absurd H (by simp)
 · rw [if_neg c3] at H
   exact absurd H (by simp)
-- by hand: function 35 (tree_Check)
/-! ### lanes_check: function 23 -/
def lanes_check.f (l0 : List (S48)) (a1 : Int) : Option (Int) := (tree_Check.f l0).bind fun bt114 => (if bt114.2 = 0 then (if a1 < 0 then (some 2) else (if a1 ≥ (l0.length : Int) then (some 2) else (if 0 ≤ a1 then (if a1 < (l0.length : Int) then (if ((rd_T48 l0 a1).f0) = 2 then (some 0) else (some 2)) else (none)) else (none)))) else (some bt114.2))
set_option maxHeartbeats 8000000 in
set_option maxRecDepth 100000 in
theorem lanes_check.calls (A0 : Option Addr) (c0 : Nat) (l0 : List (S48)) (a1 : Int) (r : Int) (w : World) (hr0 : Kd.C k48 w A0 l0.length l0) (hc0 : l0.length ≤ c0) (h : lanes_check.f l0 a1 = some r) :
 Calls Try.prog 23 #[.slice A0 l0.length c0, .int .i64 a1] w fun e w' => e = .returned (.int .i64 r) ∧ Below w.heap.size w w' := by
 have HR0 := Aside0.mk hr0
 have HC0 := Aside0.mk hc0
 clear hr0 hc0
 have HB := Aside0.mk (Below.refl w.heap.size w)
 have H : ((tree_Check.f l0).bind fun bt114 => (if bt114.2 = 0 then (if a1 < 0 then (some 2) else (if a1 ≥ (l0.length : Int) then (some 2) else (if 0 ≤ a1 then (if a1 < (l0.length : Int) then (if ((rd_T48 l0 a1).f0) = 2 then (some 0) else (some 2)) else (none)) else (none)))) else (some bt114.2))) = some r := h
 clear h
 replace H := Option.bind_eq_some_iff.mp H
 obtain ⟨⟨t114, t115⟩, A30, H⟩ := H
 replace H : (if t115 = 0 then (if a1 < 0 then (some 2) else (if a1 ≥ (l0.length : Int) then (some 2) else (if 0 ≤ a1 then (if a1 < (l0.length : Int) then (if ((rd_T48 l0 a1).f0) = 2 then (some 0) else (some 2)) else (none)) else (none)))) else (some t115)) = some r := H
 have A3 := Aside0.mk A30
 clear A30
 by_cases c4 : t115 = 0
 · rw [if_pos c4] at H
   have c4b0 : (t115 == 0) = true := beq_iff_eq.mpr c4
   have c4b1 : (t115 != 0) = false := bne_eq_false_iff_eq.mpr c4
   clear c4
   by_cases c5 : a1 < 0
   · rw [if_pos c5] at H
     have c5b0 : decide (a1 < 0) = true := decide_eq_true c5
     clear c5
     obtain rfl := Option.some.inj H
     go_enter Try.func23, Try.ntmps23
     go_wp2_with (first | ((with_reducible refine gate_callee (f := 35) rfl ?_); refine goesL_ (some 9) rfl rfl Try.func35 (by kernel_rfl) rfl #[.slice A0 l0.length c0] rfl (by (try simp only [List.map_toArray, List.map_cons, List.map_nil]); first | done | rfl) ?_; (with_reducible refine (tree_Check.calls _ _ l0 t114 t115 _ ?side1 ?side2 A3.out).mono ?_); (case side1 => repeat (first | exact HR0.out | (with_reducible refine Kd.C_alloc ?_ _) | (with_reducible refine Kd.C_drewN ?_ _) | (with_reducible refine Kd.C_drew ?_))); (case side2 => exact HC0.out); rintro e w6 ⟨rfl, hb⟩; refine ⟨_, rfl, ?_⟩; have n0_ := Aside0.mk (below_step (by repeat (first | exact HB.out | apply below_alloc | apply pw_below_drewN | apply below_drew1)) hb); clear HB; have HB := n0_; clear n0_; (try clear hb); (try clear hb2); (try clear hk); (try clear hi)))
     go_ret
     exact ⟨by first | rfl | (simp [errW_none, errW_some] <;> rfl) | (simp [*, errW_none, errW_some] <;> rfl), by repeat (first | exact HB.out | apply below_alloc | apply pw_below_drewN | apply below_drew1)⟩
   · rw [if_neg c5] at H
     have c5b0 : decide (a1 < 0) = false := decide_eq_false c5
     clear c5
     by_cases c7 : a1 ≥ (l0.length : Int)
     · rw [if_pos c7] at H
       have c7b0 : decide ((l0.length : Int) ≤ a1) = true := decide_eq_true c7
       clear c7
       obtain rfl := Option.some.inj H
       go_enter Try.func23, Try.ntmps23
       go_wp2_with (first | ((with_reducible refine gate_callee (f := 35) rfl ?_); refine goesL_ (some 9) rfl rfl Try.func35 (by kernel_rfl) rfl #[.slice A0 l0.length c0] rfl (by (try simp only [List.map_toArray, List.map_cons, List.map_nil]); first | done | rfl) ?_; (with_reducible refine (tree_Check.calls _ _ l0 t114 t115 _ ?side1 ?side2 A3.out).mono ?_); (case side1 => repeat (first | exact HR0.out | (with_reducible refine Kd.C_alloc ?_ _) | (with_reducible refine Kd.C_drewN ?_ _) | (with_reducible refine Kd.C_drew ?_))); (case side2 => exact HC0.out); rintro e w8 ⟨rfl, hb⟩; refine ⟨_, rfl, ?_⟩; have n0_ := Aside0.mk (below_step (by repeat (first | exact HB.out | apply below_alloc | apply pw_below_drewN | apply below_drew1)) hb); clear HB; have HB := n0_; clear n0_; (try clear hb); (try clear hb2); (try clear hk); (try clear hi)))
       go_ret
       exact ⟨by first | rfl | (simp [errW_none, errW_some] <;> rfl) | (simp [*, errW_none, errW_some] <;> rfl), by repeat (first | exact HB.out | apply below_alloc | apply pw_below_drewN | apply below_drew1)⟩
     · rw [if_neg c7] at H
       have c7b0 : decide ((l0.length : Int) ≤ a1) = false := decide_eq_false c7
       clear c7
       by_cases c9 : 0 ≤ a1
       · rw [if_pos c9] at H
         have c9b0 : decide (0 ≤ a1) = true := decide_eq_true c9
         clear c9
         by_cases c10 : a1 < (l0.length : Int)
         · rw [if_pos c10] at H
           have c10b0 : decide (a1 < (l0.length : Int)) = true := decide_eq_true c10
           clear c10
           by_cases c11 : ((rd_T48 l0 a1).f0) = 2
           · rw [if_pos c11] at H
             have c11b0 : (((rd_T48 l0 a1).f0) == 2) = true := beq_iff_eq.mpr c11
             have c11b1 : (((rd_T48 l0 a1).f0) != 2) = false := bne_eq_false_iff_eq.mpr c11
             clear c11
             obtain rfl := Option.some.inj H
             go_enter Try.func23, Try.ntmps23
             go_wp2_with (first | ((with_reducible refine gate_callee (f := 35) rfl ?_); refine goesL_ (some 9) rfl rfl Try.func35 (by kernel_rfl) rfl #[.slice A0 l0.length c0] rfl (by (try simp only [List.map_toArray, List.map_cons, List.map_nil]); first | done | rfl) ?_; (with_reducible refine (tree_Check.calls _ _ l0 t114 t115 _ ?side1 ?side2 A3.out).mono ?_); (case side1 => repeat (first | exact HR0.out | (with_reducible refine Kd.C_alloc ?_ _) | (with_reducible refine Kd.C_drewN ?_ _) | (with_reducible refine Kd.C_drew ?_))); (case side2 => exact HC0.out); rintro e w12 ⟨rfl, hb⟩; refine ⟨_, rfl, ?_⟩; have n0_ := Aside0.mk (below_step (by repeat (first | exact HB.out | apply below_alloc | apply pw_below_drewN | apply below_drew1)) hb); clear HB; have HB := n0_; clear n0_; (try clear hb); (try clear hb2); (try clear hk); (try clear hi); have p116 : 0 ≤ (a1 : Int) := of_decide_eq_true (by first | (with_reducible assumption) | assumption); have q116 : a1 < (l0.length : Int) := of_decide_eq_true (by first | (with_reducible assumption) | assumption); obtain ⟨ad116, A116_1, c116_1, A116_31, c116_31, e116, hx116_0, hx116_1, hx116_2, hx116_3, hx116_4, hx116_5, hx116_6, hx116_7, hx116_8, hx116_9, hx116_10, hx116_11, hx116_12, hx116_13, hx116_14, hx116_15, hx116_16, hx116_17, hx116_18, hx116_19, hx116_20, hx116_21, hx116_22, hx116_23, hx116_24, hx116_25, hx116_26, hx116_27, hx116_28, hx116_29, hx116_30, hx116_31, hx116_32, hx116_33, hl116_1, hi116_1, hl116_31, hi116_31⟩ := at_T48 HR0.out a1 p116 q116; cases e116; replace hx116_0 := (HB.out.cell (World.block_lt_of_cell? w _ hx116_0)).trans hx116_0; replace hx116_1 := (HB.out.cell (World.block_lt_of_cell? w _ hx116_1)).trans hx116_1; replace hx116_2 := (HB.out.cell (World.block_lt_of_cell? w _ hx116_2)).trans hx116_2; replace hx116_3 := (HB.out.cell (World.block_lt_of_cell? w _ hx116_3)).trans hx116_3; replace hx116_4 := (HB.out.cell (World.block_lt_of_cell? w _ hx116_4)).trans hx116_4; replace hx116_5 := (HB.out.cell (World.block_lt_of_cell? w _ hx116_5)).trans hx116_5; replace hx116_6 := (HB.out.cell (World.block_lt_of_cell? w _ hx116_6)).trans hx116_6; replace hx116_7 := (HB.out.cell (World.block_lt_of_cell? w _ hx116_7)).trans hx116_7; replace hx116_8 := (HB.out.cell (World.block_lt_of_cell? w _ hx116_8)).trans hx116_8; replace hx116_9 := (HB.out.cell (World.block_lt_of_cell? w _ hx116_9)).trans hx116_9; replace hx116_10 := (HB.out.cell (World.block_lt_of_cell? w _ hx116_10)).trans hx116_10; replace hx116_11 := (HB.out.cell (World.block_lt_of_cell? w _ hx116_11)).trans hx116_11; replace hx116_12 := (HB.out.cell (World.block_lt_of_cell? w _ hx116_12)).trans hx116_12; replace hx116_13 := (HB.out.cell (World.block_lt_of_cell? w _ hx116_13)).trans hx116_13; replace hx116_14 := (HB.out.cell (World.block_lt_of_cell? w _ hx116_14)).trans hx116_14; replace hx116_15 := (HB.out.cell (World.block_lt_of_cell? w _ hx116_15)).trans hx116_15; replace hx116_16 := (HB.out.cell (World.block_lt_of_cell? w _ hx116_16)).trans hx116_16; replace hx116_17 := (HB.out.cell (World.block_lt_of_cell? w _ hx116_17)).trans hx116_17; replace hx116_18 := (HB.out.cell (World.block_lt_of_cell? w _ hx116_18)).trans hx116_18; replace hx116_19 := (HB.out.cell (World.block_lt_of_cell? w _ hx116_19)).trans hx116_19; replace hx116_20 := (HB.out.cell (World.block_lt_of_cell? w _ hx116_20)).trans hx116_20; replace hx116_21 := (HB.out.cell (World.block_lt_of_cell? w _ hx116_21)).trans hx116_21; replace hx116_22 := (HB.out.cell (World.block_lt_of_cell? w _ hx116_22)).trans hx116_22; replace hx116_23 := (HB.out.cell (World.block_lt_of_cell? w _ hx116_23)).trans hx116_23; replace hx116_24 := (HB.out.cell (World.block_lt_of_cell? w _ hx116_24)).trans hx116_24; replace hx116_25 := (HB.out.cell (World.block_lt_of_cell? w _ hx116_25)).trans hx116_25; replace hx116_26 := (HB.out.cell (World.block_lt_of_cell? w _ hx116_26)).trans hx116_26; replace hx116_27 := (HB.out.cell (World.block_lt_of_cell? w _ hx116_27)).trans hx116_27; replace hx116_28 := (HB.out.cell (World.block_lt_of_cell? w _ hx116_28)).trans hx116_28; replace hx116_29 := (HB.out.cell (World.block_lt_of_cell? w _ hx116_29)).trans hx116_29; replace hx116_30 := (HB.out.cell (World.block_lt_of_cell? w _ hx116_30)).trans hx116_30; replace hx116_31 := (HB.out.cell (World.block_lt_of_cell? w _ hx116_31)).trans hx116_31; replace hx116_32 := (HB.out.cell (World.block_lt_of_cell? w _ hx116_32)).trans hx116_32; replace hx116_33 := (HB.out.cell (World.block_lt_of_cell? w _ hx116_33)).trans hx116_33; have HR116_1 := Aside0.mk hi116_1; have HC116_1 := Aside0.mk hl116_1; clear hi116_1 hl116_1; have HR116_31 := Aside0.mk hi116_31; have HC116_31 := Aside0.mk hl116_31; clear hi116_31 hl116_31; replace p116 := eq_true p116; replace q116 := eq_true q116))
             go_ret
             exact ⟨by first | rfl | (simp [errW_none, errW_some] <;> rfl) | (simp [*, errW_none, errW_some] <;> rfl), by repeat (first | exact HB.out | apply below_alloc | apply pw_below_drewN | apply below_drew1)⟩
           · rw [if_neg c11] at H
             have c11b0 : (((rd_T48 l0 a1).f0) == 2) = false := beq_eq_false_iff_ne.mpr c11
             have c11b1 : (((rd_T48 l0 a1).f0) != 2) = true := bne_iff_ne.mpr c11
             obtain rfl := Option.some.inj H
             go_enter Try.func23, Try.ntmps23
             go_wp2_with (first | ((with_reducible refine gate_callee (f := 35) rfl ?_); refine goesL_ (some 9) rfl rfl Try.func35 (by kernel_rfl) rfl #[.slice A0 l0.length c0] rfl (by (try simp only [List.map_toArray, List.map_cons, List.map_nil]); first | done | rfl) ?_; (with_reducible refine (tree_Check.calls _ _ l0 t114 t115 _ ?side1 ?side2 A3.out).mono ?_); (case side1 => repeat (first | exact HR0.out | (with_reducible refine Kd.C_alloc ?_ _) | (with_reducible refine Kd.C_drewN ?_ _) | (with_reducible refine Kd.C_drew ?_))); (case side2 => exact HC0.out); rintro e w13 ⟨rfl, hb⟩; refine ⟨_, rfl, ?_⟩; have n0_ := Aside0.mk (below_step (by repeat (first | exact HB.out | apply below_alloc | apply pw_below_drewN | apply below_drew1)) hb); clear HB; have HB := n0_; clear n0_; (try clear hb); (try clear hb2); (try clear hk); (try clear hi); have p116 : 0 ≤ (a1 : Int) := of_decide_eq_true (by first | (with_reducible assumption) | assumption); have q116 : a1 < (l0.length : Int) := of_decide_eq_true (by first | (with_reducible assumption) | assumption); obtain ⟨ad116, A116_1, c116_1, A116_31, c116_31, e116, hx116_0, hx116_1, hx116_2, hx116_3, hx116_4, hx116_5, hx116_6, hx116_7, hx116_8, hx116_9, hx116_10, hx116_11, hx116_12, hx116_13, hx116_14, hx116_15, hx116_16, hx116_17, hx116_18, hx116_19, hx116_20, hx116_21, hx116_22, hx116_23, hx116_24, hx116_25, hx116_26, hx116_27, hx116_28, hx116_29, hx116_30, hx116_31, hx116_32, hx116_33, hl116_1, hi116_1, hl116_31, hi116_31⟩ := at_T48 HR0.out a1 p116 q116; cases e116; replace hx116_0 := (HB.out.cell (World.block_lt_of_cell? w _ hx116_0)).trans hx116_0; replace hx116_1 := (HB.out.cell (World.block_lt_of_cell? w _ hx116_1)).trans hx116_1; replace hx116_2 := (HB.out.cell (World.block_lt_of_cell? w _ hx116_2)).trans hx116_2; replace hx116_3 := (HB.out.cell (World.block_lt_of_cell? w _ hx116_3)).trans hx116_3; replace hx116_4 := (HB.out.cell (World.block_lt_of_cell? w _ hx116_4)).trans hx116_4; replace hx116_5 := (HB.out.cell (World.block_lt_of_cell? w _ hx116_5)).trans hx116_5; replace hx116_6 := (HB.out.cell (World.block_lt_of_cell? w _ hx116_6)).trans hx116_6; replace hx116_7 := (HB.out.cell (World.block_lt_of_cell? w _ hx116_7)).trans hx116_7; replace hx116_8 := (HB.out.cell (World.block_lt_of_cell? w _ hx116_8)).trans hx116_8; replace hx116_9 := (HB.out.cell (World.block_lt_of_cell? w _ hx116_9)).trans hx116_9; replace hx116_10 := (HB.out.cell (World.block_lt_of_cell? w _ hx116_10)).trans hx116_10; replace hx116_11 := (HB.out.cell (World.block_lt_of_cell? w _ hx116_11)).trans hx116_11; replace hx116_12 := (HB.out.cell (World.block_lt_of_cell? w _ hx116_12)).trans hx116_12; replace hx116_13 := (HB.out.cell (World.block_lt_of_cell? w _ hx116_13)).trans hx116_13; replace hx116_14 := (HB.out.cell (World.block_lt_of_cell? w _ hx116_14)).trans hx116_14; replace hx116_15 := (HB.out.cell (World.block_lt_of_cell? w _ hx116_15)).trans hx116_15; replace hx116_16 := (HB.out.cell (World.block_lt_of_cell? w _ hx116_16)).trans hx116_16; replace hx116_17 := (HB.out.cell (World.block_lt_of_cell? w _ hx116_17)).trans hx116_17; replace hx116_18 := (HB.out.cell (World.block_lt_of_cell? w _ hx116_18)).trans hx116_18; replace hx116_19 := (HB.out.cell (World.block_lt_of_cell? w _ hx116_19)).trans hx116_19; replace hx116_20 := (HB.out.cell (World.block_lt_of_cell? w _ hx116_20)).trans hx116_20; replace hx116_21 := (HB.out.cell (World.block_lt_of_cell? w _ hx116_21)).trans hx116_21; replace hx116_22 := (HB.out.cell (World.block_lt_of_cell? w _ hx116_22)).trans hx116_22; replace hx116_23 := (HB.out.cell (World.block_lt_of_cell? w _ hx116_23)).trans hx116_23; replace hx116_24 := (HB.out.cell (World.block_lt_of_cell? w _ hx116_24)).trans hx116_24; replace hx116_25 := (HB.out.cell (World.block_lt_of_cell? w _ hx116_25)).trans hx116_25; replace hx116_26 := (HB.out.cell (World.block_lt_of_cell? w _ hx116_26)).trans hx116_26; replace hx116_27 := (HB.out.cell (World.block_lt_of_cell? w _ hx116_27)).trans hx116_27; replace hx116_28 := (HB.out.cell (World.block_lt_of_cell? w _ hx116_28)).trans hx116_28; replace hx116_29 := (HB.out.cell (World.block_lt_of_cell? w _ hx116_29)).trans hx116_29; replace hx116_30 := (HB.out.cell (World.block_lt_of_cell? w _ hx116_30)).trans hx116_30; replace hx116_31 := (HB.out.cell (World.block_lt_of_cell? w _ hx116_31)).trans hx116_31; replace hx116_32 := (HB.out.cell (World.block_lt_of_cell? w _ hx116_32)).trans hx116_32; replace hx116_33 := (HB.out.cell (World.block_lt_of_cell? w _ hx116_33)).trans hx116_33; have HR116_1 := Aside0.mk hi116_1; have HC116_1 := Aside0.mk hl116_1; clear hi116_1 hl116_1; have HR116_31 := Aside0.mk hi116_31; have HC116_31 := Aside0.mk hl116_31; clear hi116_31 hl116_31; replace p116 := eq_true p116; replace q116 := eq_true q116))
             go_ret
             exact ⟨by first | rfl | (simp [errW_none, errW_some] <;> rfl) | (simp [*, errW_none, errW_some] <;> rfl), by repeat (first | exact HB.out | apply below_alloc | apply pw_below_drewN | apply below_drew1)⟩
         · rw [if_neg c10] at H
           exact absurd H (by simp)
       · rw [if_neg c9] at H
         exact absurd H (by simp)
 · rw [if_neg c4] at H
   have c4b0 : (t115 == 0) = false := beq_eq_false_iff_ne.mpr c4
   have c4b1 : (t115 != 0) = true := bne_iff_ne.mpr c4
   obtain rfl := Option.some.inj H
   go_enter Try.func23, Try.ntmps23
   go_wp2_with (first | ((with_reducible refine gate_callee (f := 35) rfl ?_); refine goesL_ (some 9) rfl rfl Try.func35 (by kernel_rfl) rfl #[.slice A0 l0.length c0] rfl (by (try simp only [List.map_toArray, List.map_cons, List.map_nil]); first | done | rfl) ?_; (with_reducible refine (tree_Check.calls _ _ l0 t114 t115 _ ?side1 ?side2 A3.out).mono ?_); (case side1 => repeat (first | exact HR0.out | (with_reducible refine Kd.C_alloc ?_ _) | (with_reducible refine Kd.C_drewN ?_ _) | (with_reducible refine Kd.C_drew ?_))); (case side2 => exact HC0.out); rintro e w14 ⟨rfl, hb⟩; refine ⟨_, rfl, ?_⟩; have n0_ := Aside0.mk (below_step (by repeat (first | exact HB.out | apply below_alloc | apply pw_below_drewN | apply below_drew1)) hb); clear HB; have HB := n0_; clear n0_; (try clear hb); (try clear hb2); (try clear hk); (try clear hi)))
   go_ret
   exact ⟨by first | rfl | (simp [errW_none, errW_some] <;> rfl) | (simp [*, errW_none, errW_some] <;> rfl), by repeat (first | exact HB.out | apply below_alloc | apply pw_below_drewN | apply below_drew1)⟩
end Go.Proofs.Ytdmnaehgngpikaa.K
