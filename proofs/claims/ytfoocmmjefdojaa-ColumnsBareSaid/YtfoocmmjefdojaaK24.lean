-- PRINTED by print.py (a twelfth state) out of the translation. Not trusted: Lean checks it.
import Derived.Test.YtfoocmmjefdojaaBands
import Derived.Test.YtfoocmmjefdojaaK0
import Derived.Test.YtfoocmmjefdojaaK3
import Derived.Test.YtfoocmmjefdojaaK17
namespace Go.Proofs.Ytfoocmmjefdojaa.K
open Go.RowKit Go.Proofs.YtfoocmmjefdojaaW.PrintWords Go.Proofs.YtfoocmmjefdojaaW.PrintLast Go.Proofs.YtfoocmmjefdojaaW.PrintMore
attribute [local go_sem] max2_int min2_int max_two min_two max_three min_three max_four min_four   -- for this text's walks alone
set_option linter.unusedVariables false
set_option linter.unusedSimpArgs false

attribute [local go_sem high] eqA62
/-! ### purflinglaw13_ColumnsBare: function 12 -/
mutual
def purflinglaw13_ColumnsBare.l0 : Nat → List (S58) → Bool → List (S62) → Int → Option (Bool)
  | 0, _, _, _, _ => none
  | k + 1, x0, x3, x4, x6 => if x6 < (x4.length : Int) then (if 0 ≤ x6 then (if x6 < (x0.length : Int) then (if ((rd_T58 x0 x6).f0) = 1 then (purflinglaw13_ColumnsBare.j1 k x0 x3 x4 x6 0 ((rd_T58 x0 x6).f1) (-1) ((rd_T58 x0 x6).f1)) else (purflinglaw13_ColumnsBare.j1 k x0 x3 x4 x6 0 0 (-1) (-1))) else (none)) else (none)) else (if x3 = true then (some ((x4.length : Int) == (x0.length : Int))) else (some false))
def purflinglaw13_ColumnsBare.j1 : Nat → List (S58) → Bool → List (S62) → Int → Int → Int → Int → Int → Option (Bool)
  | 0, _, _, _, _, _, _, _, _ => none
  | k + 1, x0, x3, x4, x6, x456000, x456001, x456002, x456003 => if 0 ≤ x6 then (if x6 < (x0.length : Int) then (if ((rd_T58 x0 x6).f0) = 2 then (if x6 < (x4.length : Int) then (if (!(((rd_T62 x4 x6).f0) == 0) || (!(((rd_T62 x4 x6).f1) == 0) || (!(((rd_T62 x4 x6).f2) == ((rd_T58 x0 x6).f1)) || (!(((rd_T62 x4 x6).f3) == (-1)))))) = true then (some false) else (purflinglaw13_ColumnsBare.l0 k x0 x3 x4 (wrap64 (x6 + 1)))) else (none)) else (if x6 < (x4.length : Int) then (if (!(((rd_T62 x4 x6).f0) == x456000) || (!(((rd_T62 x4 x6).f1) == x456001) || (!(((rd_T62 x4 x6).f2) == x456002) || (!(((rd_T62 x4 x6).f3) == x456003))))) = true then (some false) else (purflinglaw13_ColumnsBare.l0 k x0 x3 x4 (wrap64 (x6 + 1)))) else (none))) else (none)) else (none)
end
def purflinglaw13_ColumnsBare.f (k : Nat) (l0 : List (S58)) : Option (Bool) := (purflinglaw13_shown.f).bind fun t446 => (if 0 ≤ (mn (l0.length : Int) 40) then (if (mn (l0.length : Int) 40) ≤ (l0.length : Int) then ((some (l0.take ((mn (l0.length : Int) 40) : Int).toNat : List (S58))).bind fun y447 => ((columns_Bands.f y447 ([] : List (S60))).bind fun bt451 => (if bt451.2 = 0 then (purflinglaw13_ColumnsBare.l0 k y447 t446 bt451.1 0) else (if t446 = true then (some ((bt451.1.length : Int) == 0)) else (some false))))) else (none)) else (none))
theorem purflinglaw13_ColumnsBare.mono_l : ∀ k, (∀ y0 y1 y2 y3, LeO (purflinglaw13_ColumnsBare.l0 k y0 y1 y2 y3) (purflinglaw13_ColumnsBare.l0 (k + 1) y0 y1 y2 y3)) ∧ (∀ y0 y1 y2 y3 y4 y5 y6 y7, LeO (purflinglaw13_ColumnsBare.j1 k y0 y1 y2 y3 y4 y5 y6 y7) (purflinglaw13_ColumnsBare.j1 (k + 1) y0 y1 y2 y3 y4 y5 y6 y7))
  | 0 => ⟨fun _ _ _ _ r h => by simp [purflinglaw13_ColumnsBare.l0] at h, fun _ _ _ _ _ _ _ _ r h => by simp [purflinglaw13_ColumnsBare.j1] at h⟩
  | k + 1 => by
    obtain ⟨ih0, ih1⟩ := purflinglaw13_ColumnsBare.mono_l k
    refine ⟨?_, ?_⟩
    · intro y0 y1 y2 y3
      unfold purflinglaw13_ColumnsBare.l0
      repeat' first
      | (with_reducible exact ih0 _ _ _ _)
      | (with_reducible exact ih1 _ _ _ _ _ _ _ _)
      | (with_reducible exact LeO.refl _)
      | (with_reducible exact LeO.none _)
      | (with_reducible refine LeO.ite ?_ ?_)
      | (with_reducible refine LeO.bind ?_ (fun _ => ?_))
      | exact ih0 _ _ _ _
      | exact ih1 _ _ _ _ _ _ _ _
      | exact LeO.none _
      | refine LeO.ite ?_ ?_
      | refine LeO.bind ?_ (fun _ => ?_)
    · intro y0 y1 y2 y3 y4 y5 y6 y7
      unfold purflinglaw13_ColumnsBare.j1
      repeat' first
      | (with_reducible exact ih0 _ _ _ _)
      | (with_reducible exact ih1 _ _ _ _ _ _ _ _)
      | (with_reducible exact LeO.refl _)
      | (with_reducible exact LeO.none _)
      | (with_reducible refine LeO.ite ?_ ?_)
      | (with_reducible refine LeO.bind ?_ (fun _ => ?_))
      | exact ih0 _ _ _ _
      | exact ih1 _ _ _ _ _ _ _ _
      | exact LeO.none _
      | refine LeO.ite ?_ ?_
      | refine LeO.bind ?_ (fun _ => ?_)
theorem purflinglaw13_ColumnsBare.mono : ∀ a0 k, LeO (purflinglaw13_ColumnsBare.f k a0) (purflinglaw13_ColumnsBare.f (k + 1) a0) := by
  intro a0 k
  obtain ⟨ih0, ih1⟩ := purflinglaw13_ColumnsBare.mono_l k
  unfold purflinglaw13_ColumnsBare.f
  repeat' first
      | (with_reducible exact ih0 _ _ _ _)
      | (with_reducible exact ih1 _ _ _ _ _ _ _ _)
      | (with_reducible exact LeO.refl _)
      | (with_reducible exact LeO.none _)
      | (with_reducible refine LeO.ite ?_ ?_)
      | (with_reducible refine LeO.bind ?_ (fun _ => ?_))
      | exact ih0 _ _ _ _
      | exact ih1 _ _ _ _ _ _ _ _
      | exact LeO.none _
      | refine LeO.ite ?_ ?_
      | refine LeO.bind ?_ (fun _ => ?_)
def purflinglaw13_ColumnsBare.T11 : Bool × List (List Nat × List Nat) := (true, [([], []), ([], []), ([0, 1], [0, 1]), ([2], [2]), ([3], [3]), ([], []), ([], []), ([5, 6], [5, 6]), ([7], [7]), ([8], [8]), ([4, 9], [4, 9]), ([10, 0, 1, 2, 3, 4, 5, 6, 7, 8, 9, 10], [10])])
def purflinglaw13_ColumnsBare.B11 : List Nat := [0, 0, 3, 7, 15, 0, 0, 96, 224, 480, 1023, 2047]
theorem purflinglaw13_ColumnsBare.tab11 : rtab .any (opsOf Try.f12 11) = purflinglaw13_ColumnsBare.T11 := by kernel_rfl
theorem purflinglaw13_ColumnsBare.bits11 : waitsOk purflinglaw13_ColumnsBare.T11.2 purflinglaw13_ColumnsBare.B11 = true := by kernel_rfl
set_option maxHeartbeats 8000000 in
set_option maxRecDepth 100000 in
theorem purflinglaw13_ColumnsBare.calls (k : Nat) (A0 : Option Addr) (c0 : Nat) (l0 : List (S58)) (r : Bool) (w : World) (hr0 : Kd.C k58 w A0 l0.length l0) (hc0 : l0.length ≤ c0) (h : purflinglaw13_ColumnsBare.f k l0 = some r) :
    Calls Try.prog 12 #[.slice A0 l0.length c0] w fun e w' => e = .returned (.bool r) ∧ Below w.heap.size w w' := by
  have hu62 := Try.underlying62
  have HR0 := Aside0.mk hr0
  have HC0 := Aside0.mk hc0
  clear hr0 hc0
  have HB := Aside0.mk (Below.refl w.heap.size w)
  have H : ((purflinglaw13_shown.f).bind fun t446 => (if 0 ≤ (mn (l0.length : Int) 40) then (if (mn (l0.length : Int) 40) ≤ (l0.length : Int) then ((some (l0.take ((mn (l0.length : Int) 40) : Int).toNat : List (S58))).bind fun y447 => ((columns_Bands.f y447 ([] : List (S60))).bind fun bt451 => (if bt451.2 = 0 then (purflinglaw13_ColumnsBare.l0 k y447 t446 bt451.1 0) else (if t446 = true then (some ((bt451.1.length : Int) == 0)) else (some false))))) else (none)) else (none))) = some r := h
  clear h
  replace H := Option.bind_eq_some_iff.mp H
  obtain ⟨t446, A20, H⟩ := H
  replace H : (if 0 ≤ (mn (l0.length : Int) 40) then (if (mn (l0.length : Int) 40) ≤ (l0.length : Int) then ((some (l0.take ((mn (l0.length : Int) 40) : Int).toNat : List (S58))).bind fun y447 => ((columns_Bands.f y447 ([] : List (S60))).bind fun bt451 => (if bt451.2 = 0 then (purflinglaw13_ColumnsBare.l0 k y447 t446 bt451.1 0) else (if t446 = true then (some ((bt451.1.length : Int) == 0)) else (some false))))) else (none)) else (none)) = some r := H
  have A2 := Aside0.mk A20
  clear A20
  obtain ⟨ji3, hji3⟩ : ∃ j_ : Int, (mn (l0.length : Int) 40) = j_ := ⟨_, rfl⟩
  replace H : (if 0 ≤ (ji3) then (if (ji3) ≤ (l0.length : Int) then ((some (l0.take ((ji3) : Int).toNat : List (S58))).bind fun y447 => ((columns_Bands.f y447 ([] : List (S60))).bind fun bt451 => (if bt451.2 = 0 then (purflinglaw13_ColumnsBare.l0 k y447 t446 bt451.1 0) else (if t446 = true then (some ((bt451.1.length : Int) == 0)) else (some false))))) else (none)) else (none)) = some r := by first | (rw [hji3] at H; exact H) | (simp only [hji3] at H ⊢; exact H)
  (try rw [hji3] at A2)
  (try (have hji3h : ji3 ≤ 40 := by (rw [← hji3]; unfold mn; (repeat' split) <;> omega)))
  (try (have hji3g : ji3 ≤ 64 := by omega))
  (try (have hji3l : 0 ≤ ji3 := by (rw [← hji3]; unfold mn; (repeat' split) <;> omega)))
  (try (have hji3m : 0 ≤ ji3 := by omega))
  have hji3_ : (if 40 < (l0.length : Int) then 40 else (l0.length : Int)) = ji3 := hji3
  by_cases c4 : 0 ≤ (ji3)
  · rw [if_pos c4] at H
    have c4b0 := eq_true c4
    have c4b1 : decide (0 ≤ (ji3)) = true := decide_eq_true c4
    clear c4
    by_cases c5 : (ji3) ≤ (l0.length : Int)
    · rw [if_pos c5] at H
      have c5b0 := eq_true c5
      have c5b1 : decide ((ji3) ≤ (l0.length : Int)) = true := decide_eq_true c5
      clear c5
      obtain ⟨y447, hy447⟩ : ∃ y_ : List (S58), y_ = (l0.take ((ji3) : Int).toNat) := ⟨_, rfl⟩
      replace H : ((columns_Bands.f y447 ([] : List (S60))).bind fun bt451 => (if bt451.2 = 0 then (purflinglaw13_ColumnsBare.l0 k y447 t446 bt451.1 0) else (if t446 = true then (some ((bt451.1.length : Int) == 0)) else (some false)))) = some r := by first | (rw [hy447]; with_reducible exact H) | (have H2_ := (Option.bind_some _ _).symm.trans H; rw [hy447]; with_reducible exact H2_) | (have H2_ := (Option.bind_some _ _).symm.trans H; with_reducible exact H2_) | with_reducible exact H | (rw [hy447]; exact H) | exact H
      have Ny447 := Aside0.mk hy447
      clear hy447
      replace H := Option.bind_eq_some_iff.mp H
      obtain ⟨⟨t451, t452⟩, A60, H⟩ := H
      replace H : (if t452 = 0 then (purflinglaw13_ColumnsBare.l0 k y447 t446 t451 0) else (if t446 = true then (some ((t451.length : Int) == 0)) else (some false))) = some r := H
      have A6 := Aside0.mk A60
      clear A60
      by_cases c7 : t452 = 0
      · rw [if_pos c7] at H
        have c7b0 : (t452 == 0) = true := beq_iff_eq.mpr c7
        have c7b1 : (t452 != 0) = false := bne_eq_false_iff_eq.mpr c7
        clear c7
        have H' := Aside0.mk H
        clear H
        go_enter Try.func12, Try.ntmps12
        go_wp2_with (first | ((with_reducible refine gate_callee (f := 26) rfl ?_); refine goesL_ (some 8) rfl rfl Try.func26 (by kernel_rfl) rfl #[] rfl (by (try simp only [List.map_toArray, List.map_cons, List.map_nil]); first | done | rfl | (simp only [List.length_drop, List.length_take]; rfl)) ?_; (with_reducible refine (purflinglaw13_shown.calls  t446 _ A2.out).mono ?_); rintro e w8 ⟨rfl, hb⟩; refine ⟨_, rfl, ?_⟩; have n0_ := Aside0.mk (below_step (by repeat (first | (with_reducible first | exact HB.out | apply below_alloc | apply pw_below_drewN | apply below_drew1) | exact HB.out)) hb); clear HB; have HB := n0_; clear n0_; (try clear hb); (try clear hb2); (try clear hk); (try clear hi); have q9 : ((ji3) : Int) ≤ ((l0.length : Int) : Int) := of_decide_eq_true (by first | (with_reducible assumption) | assumption); obtain ⟨i09, hi09, _, hsz9, _⟩ := info_parts info58; have hroom9 : l0.length ≤ c0 := HC0.out; have hC9 : Kd.C k58 _ A0 l0.length l0 := HR0.out; have hcut9 := cut_to (P := Try.prog) 47 58 .i64 Try.underlying47 hi09 A0 l0.length c0 (ji3) (of_decide_eq_true (by first | (with_reducible assumption) | assumption)) q9 hroom9; have hr9 := Kd.C_take (m := ((ji3) : Int).toNat) hC9 (by omega); have hy9 : y447.length = ((ji3) : Int).toNat := (by rw [Ny447.out, List.length_take]; omega); rw [← Ny447.out] at hr9; rw [← hy9] at hcut9; have HR450 := Aside0.mk hr9; have HC450 := Aside0.mk (show y447.length ≤ c0 from by omega); clear hr9 hC9 hroom9 hi09 hsz9; have KY9 := Aside0.mk hy9; clear hy9; replace q9 := eq_true q9) | ((with_reducible refine gate_callee (f := 28) rfl ?_); refine goesL_ (some 16) rfl rfl Try.func28 (by kernel_rfl) rfl #[.slice A0 y447.length c0, .slice none 0 0] rfl (by (try simp only [List.map_toArray, List.map_cons, List.map_nil]); first | done | rfl | (simp only [List.length_drop, List.length_take]; rfl)) ?_; (refine (columns_Bands.calls _ _ y447 _ _ ([] : List (S60)) t451 t452 _ ?side1 ?side2 ?side3 ?side4 A6.out).mono ?_); (case side1 => repeat (first | exact (Kd.C_below HR450.out HB.out) | (with_reducible refine Kd.C_alloc ?_ _) | (with_reducible refine Kd.C_drewN ?_ _) | (with_reducible refine Kd.C_drew ?_))); (case side2 => exact HC450.out); (case side3 => exact Kd.C_nil _ _); (case side4 => exact Nat.le_refl _); rintro e w10 ⟨v453, rfl, ho0, hb⟩; refine ⟨_, rfl, ?_⟩; have n0_ := Aside0.mk (Kd.R_lower ho0 (below_size (by repeat (first | (with_reducible first | exact HB.out | apply below_alloc | apply pw_below_drewN | apply below_drew1) | exact HB.out)))); have n1_ := Aside0.mk (below_step (by repeat (first | (with_reducible first | exact HB.out | apply below_alloc | apply pw_below_drewN | apply below_drew1) | exact HB.out)) hb); clear HB; have HO454 := n0_; have HB := n1_; clear n0_ n1_; (try clear hb); (try clear hb2); (try clear hk); (try clear hi); (try clear ho0)))
        go_loopg [6] k (fun kq v6 w' => ∃ (x6_1 : Int), v6 = .int .i64 x6_1 ∧ Aside0 (purflinglaw13_ColumnsBare.l0 kq y447 t446 t451 x6_1 = some r) ∧ Aside0 (kq ≤ k) ∧ Aside0 (Kd.R k62 62 w' w.heap.size (fun _ => True) v453 t451) ∧ Aside0 (Below w.heap.size w w'))
        case atStart => exact ⟨(0), (by first | rfl | (simp; done) | (simp [*]; done)), H', ⟨Nat.le_refl _⟩, ⟨by (with_reducible repeat (first | apply Kd.R_alloc | apply Kd.R_drewN | apply Kd.R_drew)); exact HO454.out⟩, ⟨by repeat (first | (with_reducible first | exact HB.out | apply below_alloc | apply pw_below_drewN | apply below_drew1) | exact HB.out)⟩⟩
        case round =>
          clear H'
          try clear c1
          try clear c2
          try clear p2
          try clear c4
          try clear c4b0
          try clear c4b1
          try clear c5
          try clear c5b0
          try clear c5b1
          try clear c7
          try clear c7b0
          try clear c7b1
          try clear q9
          try clear q9
          obtain ⟨x6_1, rfl, HA, HK1, HO_4, HB⟩ := hrel
          cases gk with
          | zero => exact absurd HA.out (by simp [purflinglaw13_ColumnsBare.l0])
          | succ k1 =>
            have H := HA.out
            clear HA
            simp only [purflinglaw13_ColumnsBare.l0] at H
            by_cases c11 : x6_1 < (t451.length : Int)
            · rw [if_pos c11] at H
              have c11b0 : decide (x6_1 < (t451.length : Int)) = true := decide_eq_true c11
              clear c11
              by_cases c12 : 0 ≤ x6_1
              · rw [if_pos c12] at H
                have c12b0 : decide (0 ≤ x6_1) = true := decide_eq_true c12
                clear c12
                by_cases c13 : x6_1 < (y447.length : Int)
                · rw [if_pos c13] at H
                  have c13b0 : decide (x6_1 < (y447.length : Int)) = true := decide_eq_true c13
                  clear c13
                  have HC14 := Aside0.mk H
                  clear H
                  obtain ⟨Ao15, co15, eo15⟩ := Kd.R_slice HO_4.out
                  subst eo15
                  go_upto_if 39 with (first | ((with_reducible refine gate_dst (N := 7) rfl ?_); (try (refine gate_guard (by rfl) ?_; dsimp only)); refine box_event ?hg (N := 7) ?hd (cs := #[.int .i64 0, .int .i64 0, .int .i64 0, .int .i64 0]) (t := 62) ?hr ?_; (case hd => rfl); (case hg => rfl); (case hr => first | (go_simp; done) | (go_simp; rfl)); intro gb455 hg w16 hbox hb; have n0_ := Aside0.mk (Kd.R_below (Kd.R_elderB (by (with_reducible repeat (first | apply Kd.R_alloc | apply Kd.R_drewN | apply Kd.R_drew)); exact HO_4.out) gb455 (Nat.le_of_eq hg.symm)) hb); have n1_ := Aside0.mk (below_step (by repeat (first | (with_reducible first | exact HB.out | apply below_alloc | apply pw_below_drewN | apply below_drew1) | exact HB.out)) hb); have n2_ := Aside0.mk (hbox); have n3_ := Aside0.mk ((by rw [hg]; exact (below_size (by repeat (first | (with_reducible first | exact HB.out | apply below_alloc | apply pw_below_drewN | apply below_drew1) | exact HB.out))) : w.heap.size ≤ gb455)); have n4_ := Aside0.mk ((by rw [hg]; exact (below_size (by repeat (first | (with_reducible first | exact HB.out | apply below_alloc | apply pw_below_drewN | apply below_drew1) | exact HB.out))) : w.heap.size ≤ gb455)); clear HO_4; clear HB; have HO_4 := n0_; have HB := n1_; have BK455 := n2_; have GW455 := n3_; have GE455 := n4_; clear n0_ n1_ n2_ n3_ n4_; clear hb hbox hg; have hcz17_0 : w16.cell? ⟨gb455, 0, none⟩ = some (.int .i64 0) := (blk_cell BK455.out 0).trans rfl; have hcz17_1 : w16.cell? ⟨gb455, 1, none⟩ = some (.int .i64 0) := (blk_cell BK455.out 1).trans rfl; have hcz17_2 : w16.cell? ⟨gb455, 2, none⟩ = some (.int .i64 0) := (blk_cell BK455.out 2).trans rfl; have hcz17_3 : w16.cell? ⟨gb455, 3, none⟩ = some (.int .i64 0) := (blk_cell BK455.out 3).trans rfl; have hfz17_0 := blk_frozen BK455.out 0; have hfz17_1 := blk_frozen BK455.out 1; have hfz17_2 := blk_frozen BK455.out 2; have hfz17_3 := blk_frozen BK455.out 3; have p456 : 0 ≤ (x6_1 : Int) := of_decide_eq_true (by first | (with_reducible assumption) | assumption); have q456 : x6_1 < (y447.length : Int) := of_decide_eq_true (by first | (with_reducible assumption) | assumption); obtain ⟨ad456, e456, hx456_0, hx456_1⟩ := at_T58 HR450.out x6_1 p456 q456; cases e456; have hn456_0 : ad456.block ≠ gb455 := Nat.ne_of_lt (Nat.lt_of_lt_of_le (by have := World.block_lt_of_cell? _ _ hx456_0; first | rwa [add_block] at this | exact this) GW455.out); have hn456_1 : ad456.block ≠ gb455 := Nat.ne_of_lt (Nat.lt_of_lt_of_le (by have := World.block_lt_of_cell? _ _ hx456_0; first | rwa [add_block] at this | exact this) GW455.out); have hn456_2 : ad456.block ≠ gb455 := Nat.ne_of_lt (Nat.lt_of_lt_of_le (by have := World.block_lt_of_cell? _ _ hx456_0; first | rwa [add_block] at this | exact this) GW455.out); have hn456_3 : ad456.block ≠ gb455 := Nat.ne_of_lt (Nat.lt_of_lt_of_le (by have := World.block_lt_of_cell? _ _ hx456_0; first | rwa [add_block] at this | exact this) GW455.out); replace hx456_0 := (HB.out.cell (World.block_lt_of_cell? w _ hx456_0)).trans hx456_0; replace hx456_1 := (HB.out.cell (World.block_lt_of_cell? w _ hx456_1)).trans hx456_1; replace hx456_0 := (cell_far (p := ⟨gb455, 0, none⟩) (by first | (rw [add_block]; exact hn456_0) | (show (Addr.add _ _).block ≠ _; rw [add_block]; exact hn456_0) | exact hn456_0) (.int .i64 0)).trans hx456_0; replace hx456_1 := (cell_far (p := ⟨gb455, 0, none⟩) (by first | (rw [add_block]; exact hn456_0) | (show (Addr.add _ _).block ≠ _; rw [add_block]; exact hn456_0) | exact hn456_0) (.int .i64 0)).trans hx456_1; replace hx456_0 := (cell_far (p := ⟨gb455, 1, none⟩) (by first | (rw [add_block]; exact hn456_1) | (show (Addr.add _ _).block ≠ _; rw [add_block]; exact hn456_1) | exact hn456_1) (.int .i64 0)).trans hx456_0; replace hx456_1 := (cell_far (p := ⟨gb455, 1, none⟩) (by first | (rw [add_block]; exact hn456_1) | (show (Addr.add _ _).block ≠ _; rw [add_block]; exact hn456_1) | exact hn456_1) (.int .i64 0)).trans hx456_1; replace hx456_0 := (cell_far (p := ⟨gb455, 2, none⟩) (by first | (rw [add_block]; exact hn456_2) | (show (Addr.add _ _).block ≠ _; rw [add_block]; exact hn456_2) | exact hn456_2) (.int .i64 (-1))).trans hx456_0; replace hx456_1 := (cell_far (p := ⟨gb455, 2, none⟩) (by first | (rw [add_block]; exact hn456_2) | (show (Addr.add _ _).block ≠ _; rw [add_block]; exact hn456_2) | exact hn456_2) (.int .i64 (-1))).trans hx456_1; replace hx456_0 := (cell_far (p := ⟨gb455, 3, none⟩) (by first | (rw [add_block]; exact hn456_3) | (show (Addr.add _ _).block ≠ _; rw [add_block]; exact hn456_3) | exact hn456_3) (.int .i64 (-1))).trans hx456_0; replace hx456_1 := (cell_far (p := ⟨gb455, 3, none⟩) (by first | (rw [add_block]; exact hn456_3) | (show (Addr.add _ _).block ≠ _; rw [add_block]; exact hn456_3) | exact hn456_3) (.int .i64 (-1))).trans hx456_1; clear hn456_0; clear hn456_1; clear hn456_2; clear hn456_3; replace p456 := eq_true p456; replace q456 := eq_true q456))
                  (try simp only [Act.put, List.setIfInBounds_toArray, List.set_cons_zero, List.set_cons_succ])
                  go_cut [] (fun wc => ∃ (kq : Nat) (x456000_13 : Int) (x456001_13 : Int) (x456002_13 : Int) (x456003_13 : Int), Aside0 (purflinglaw13_ColumnsBare.j1 kq y447 t446 t451 x6_1 x456000_13 x456001_13 x456002_13 x456003_13 = some r) ∧ Aside0 (kq ≤ k1) ∧ Aside0 (Kd.R k62 62 wc w.heap.size (fun k_ => k_ ≠ gb455) (.slice Ao15 t451.length co15) t451) ∧ Aside0 (wc.heap[gb455]? = some (.cells #[.int .i64 x456000_13, .int .i64 x456001_13, .int .i64 x456002_13, .int .i64 x456003_13] 62 (0, 0))) ∧ Aside0 (Below w.heap.size w wc))
                  case first =>
                    have H := HC14.out
                    clear HC14
                    by_cases c18 : ((rd_T58 y447 x6_1).f0) = 1
                    · rw [if_pos c18] at H
                      have c18b0 : (((rd_T58 y447 x6_1).f0) == 1) = true := beq_iff_eq.mpr c18
                      have c18b1 : (((rd_T58 y447 x6_1).f0) != 1) = false := bne_eq_false_iff_eq.mpr c18
                      clear c18
                      (first | rw [c18b0] | (simp only [i64_w, i32_w]; rw [c18b0]) | skip)
                      have H' := Aside0.mk H
                      clear H
                      try go_wp2
                      have n0_ : Aside0 (Kd.R k62 62 ((((w16.setCell ⟨gb455, 0, none⟩ (.int .i64 0)).setCell ⟨gb455, 1, none⟩ (.int .i64 0)).setCell ⟨gb455, 2, none⟩ (.int .i64 (-1))).setCell ⟨gb455, 3, none⟩ (.int .i64 (-1))) w.heap.size (fun k_ => k_ ≠ gb455) (.slice Ao15 t451.length co15) t451) := ⟨by (with_reducible repeat (first | apply Kd.R_alloc | apply Kd.R_drewN | apply Kd.R_drew)); exact Kd.R_mono (Kd.R_far (p := ⟨gb455, 3, none⟩) (Kd.R_far (p := ⟨gb455, 2, none⟩) (Kd.R_far (p := ⟨gb455, 1, none⟩) (Kd.R_far (p := ⟨gb455, 0, none⟩) (Kd.R_mono HO_4.out (fun k_ hk => (⟨hk, hk.2⟩ : _ ∧ k_ ≠ gb455))) (fun _ hk => hk.2) (.int .i64 0)) (fun _ hk => hk.2) (.int .i64 0)) (fun _ hk => hk.2) (.int .i64 (-1))) (fun _ hk => hk.2) (.int .i64 (-1))) (fun _ hk => hk.1.2)⟩
                      have n1_ : Aside0 (((((w16.setCell ⟨gb455, 0, none⟩ (.int .i64 0)).setCell ⟨gb455, 1, none⟩ (.int .i64 0)).setCell ⟨gb455, 2, none⟩ (.int .i64 (-1))).setCell ⟨gb455, 3, none⟩ (.int .i64 (-1))).heap[gb455]? = some (.cells #[.int .i64 0, .int .i64 0, .int .i64 (-1), .int .i64 (-1)] 62 (0, 0))) := ⟨by (with_reducible repeat (first | refine blk_drewN ?_ _ | refine blk_drew ?_ | refine blk_alloc ?_ _)); refine blk_put (cs := #[.int .i64 0, .int .i64 0, .int .i64 (-1), .int .i64 0]) ?_ 3 _ rfl; (with_reducible repeat (first | refine blk_drewN ?_ _ | refine blk_drew ?_ | refine blk_alloc ?_ _)); refine blk_put (cs := #[.int .i64 0, .int .i64 0, .int .i64 0, .int .i64 0]) ?_ 2 _ rfl; (with_reducible repeat (first | refine blk_drewN ?_ _ | refine blk_drew ?_ | refine blk_alloc ?_ _)); refine blk_put (cs := #[.int .i64 0, .int .i64 0, .int .i64 0, .int .i64 0]) ?_ 1 _ rfl; (with_reducible repeat (first | refine blk_drewN ?_ _ | refine blk_drew ?_ | refine blk_alloc ?_ _)); refine blk_put (cs := #[.int .i64 0, .int .i64 0, .int .i64 0, .int .i64 0]) ?_ 0 _ rfl; (with_reducible repeat (first | refine blk_drewN ?_ _ | refine blk_drew ?_ | refine blk_alloc ?_ _)); exact BK455.out⟩
                      have n2_ : Aside0 (Below w.heap.size w ((((w16.setCell ⟨gb455, 0, none⟩ (.int .i64 0)).setCell ⟨gb455, 1, none⟩ (.int .i64 0)).setCell ⟨gb455, 2, none⟩ (.int .i64 (-1))).setCell ⟨gb455, 3, none⟩ (.int .i64 (-1)))) := ⟨by repeat (first | (with_reducible first | exact HB.out | apply below_alloc | apply pw_below_drewN | apply below_drew1 | refine below_set ?_ GE455.out) | exact HB.out)⟩
                      (try clear HO_4)
                      (try clear BK455)
                      (try clear HB)
                      generalize ((((w16.setCell ⟨gb455, 0, none⟩ (.int .i64 0)).setCell ⟨gb455, 1, none⟩ (.int .i64 0)).setCell ⟨gb455, 2, none⟩ (.int .i64 (-1))).setCell ⟨gb455, 3, none⟩ (.int .i64 (-1))) = w19 at n0_ n1_ n2_ ⊢
                      have HO_4 := n0_
                      have BK455 := n1_
                      have HB := n2_
                      clear n0_ n1_ n2_
                      have n0_ := Aside0.mk (Kd.R_drew HO_4.out)
                      have n1_ := Aside0.mk (blk_drew BK455.out)
                      have n2_ := Aside0.mk (below_drew1 HB.out)
                      clear HO_4
                      clear BK455
                      clear HB
                      have HO_4 := n0_
                      have BK455 := n1_
                      have HB := n2_
                      clear n0_ n1_ n2_
                      have p457 : 0 ≤ (x6_1 : Int) := of_decide_eq_true (by first | (with_reducible assumption) | assumption)
                      have q457 : x6_1 < (y447.length : Int) := of_decide_eq_true (by first | (with_reducible assumption) | assumption)
                      obtain ⟨ad457, e457, hx457_0, hx457_1⟩ := at_T58 HR450.out x6_1 p457 q457
                      have hw457_1 := hx457_1
                      have hw457_0 := hx457_0
                      obtain rfl : ad456 = ad457 := (by injection e457)
                      replace hx457_0 := (HB.out.cell (World.block_lt_of_cell? w _ hx457_0)).trans hx457_0
                      replace hx457_1 := (HB.out.cell (World.block_lt_of_cell? w _ hx457_1)).trans hx457_1
                      replace p457 := eq_true p457
                      replace q457 := eq_true q457
                      have p458 : 0 ≤ (x6_1 : Int) := of_decide_eq_true (by first | (with_reducible assumption) | assumption)
                      have q458 : x6_1 < (y447.length : Int) := of_decide_eq_true (by first | (with_reducible assumption) | assumption)
                      obtain ⟨ad458, e458, hx458_0, hx458_1⟩ := at_T58 HR450.out x6_1 p458 q458
                      have hw458_1 := hx458_1
                      have hw458_0 := hx458_0
                      obtain rfl : ad456 = ad458 := (by injection e458)
                      replace hx458_0 := (HB.out.cell (World.block_lt_of_cell? w _ hx458_0)).trans hx458_0
                      replace hx458_1 := (HB.out.cell (World.block_lt_of_cell? w _ hx458_1)).trans hx458_1
                      replace p458 := eq_true p458
                      replace q458 := eq_true q458
                      refine start_ (n := 12) (S := fun w' => w'.cell? (ad456.add ((x6_1).toNat * 2)) = some (.int .i64 ((rd_T58 y447 x6_1).f0)) ∧ w'.cell? ⟨(ad456.add ((x6_1).toNat * 2)).block, (ad456.add ((x6_1).toNat * 2)).off + 1, none⟩ = some (.int .i64 ((rd_T58 y447 x6_1).f1)) ∧ w'.cell? (ad456.add ((x6_1).toNat * 2)) = some (.int .i64 ((rd_T58 y447 x6_1).f0)) ∧ w'.cell? ⟨(ad456.add ((x6_1).toNat * 2)).block, (ad456.add ((x6_1).toNat * 2)).off + 1, none⟩ = some (.int .i64 ((rd_T58 y447 x6_1).f1))) (ds := []) #[false, false, false, false, false, false, false, false, false, false, false, false] (by kernel_rfl) rfl rfl ⟨((HB.out.cell (World.block_lt_of_cell? w _ hw457_0)).trans hw457_0), ((HB.out.cell (World.block_lt_of_cell? w _ hw457_1)).trans hw457_1), ((HB.out.cell (World.block_lt_of_cell? w _ hw458_0)).trans hw458_0), ((HB.out.cell (World.block_lt_of_cell? w _ hw458_1)).trans hw458_1)⟩ (fun hHeld => ?_); refine with_tabW purflinglaw13_ColumnsBare.tab11 purflinglaw13_ColumnsBare.bits11 (fun HT_ HW_ => ?_)
                      generalize w19.drew = w20 at HO_4 BK455 HB hx457_0 hx457_1 hx458_0 hx458_1 hHeld ⊢
                      refine pure_ (i := 0) (N := some 40) (v := ?_) (a' := ?_) #[true, false, false, false, false, false, false, false, false, false, false, false] rfl rfl (any_of HT_.out (by kernel_rfl)) (fun _ _ _ h => h) (Or.inl ⟨by rfl, ?_⟩) ?_ ?_
                      rotate_left
                      · intro w'
                        go_simp
                        with_reducible rfl
                      rotate_left
                      · simp only [Act.put, List.setIfInBounds_toArray, List.set_cons_zero, List.set_cons_succ, i64_w, i32_w]
                        rfl
                      refine pure_ (i := 1) (N := some 41) (v := ?_) (a' := ?_) #[true, true, false, false, false, false, false, false, false, false, false, false] rfl rfl (any_of HT_.out (by kernel_rfl)) (fun _ _ _ h => h) (Or.inl ⟨by rfl, ?_⟩) ?_ ?_
                      rotate_left
                      · intro w'
                        go_simp
                        with_reducible rfl
                      rotate_left
                      · simp only [Act.put, List.setIfInBounds_toArray, List.set_cons_zero, List.set_cons_succ, i64_w, i32_w]
                        rfl
                      refine pure_ (i := 2) (N := some 42) (v := ?_) (a' := ?_) #[true, true, true, false, false, false, false, false, false, false, false, false] rfl rfl (any_of HT_.out (by kernel_rfl)) (fun _ _ _ h => h) (Or.inl ⟨by rfl, ?_⟩) ?_ ?_
                      rotate_left
                      · intro w'
                        go_simp
                        with_reducible rfl
                      rotate_left
                      · simp only [Act.put, List.setIfInBounds_toArray, List.set_cons_zero, List.set_cons_succ, i64_w, i32_w]
                        rfl
                      refine pure_ (i := 3) (N := some 43) (v := ?_) (a' := ?_) #[true, true, true, true, false, false, false, false, false, false, false, false] rfl rfl (any_of HT_.out (by kernel_rfl)) (fun _ _ _ h => h) (Or.inl ⟨by rfl, ?_⟩) ?_ ?_
                      rotate_left
                      · intro w'
                        go_simp
                        with_reducible rfl
                      rotate_left
                      · simp only [Act.put, List.setIfInBounds_toArray, List.set_cons_zero, List.set_cons_succ, i64_w, i32_w]
                        rfl
                      refine pure_ (i := 5) (N := some 45) (v := ?_) (a' := ?_) #[true, true, true, true, false, true, false, false, false, false, false, false] rfl rfl (any_of HT_.out (by kernel_rfl)) (fun _ _ _ h => h) (Or.inl ⟨by rfl, ?_⟩) ?_ ?_
                      rotate_left
                      · intro w'
                        go_simp
                        with_reducible rfl
                      rotate_left
                      · simp only [Act.put, List.setIfInBounds_toArray, List.set_cons_zero, List.set_cons_succ, i64_w, i32_w]
                        rfl
                      refine pure_ (i := 6) (N := some 46) (v := ?_) (a' := ?_) #[true, true, true, true, false, true, true, false, false, false, false, false] rfl rfl (any_of HT_.out (by kernel_rfl)) (fun _ _ _ h => h) (Or.inl ⟨by rfl, ?_⟩) ?_ ?_
                      rotate_left
                      · intro w'
                        go_simp
                        with_reducible rfl
                      rotate_left
                      · simp only [Act.put, List.setIfInBounds_toArray, List.set_cons_zero, List.set_cons_succ, i64_w, i32_w]
                        rfl
                      refine pure_ (i := 7) (N := some 47) (v := ?_) (a' := ?_) #[true, true, true, true, false, true, true, true, false, false, false, false] rfl rfl (any_of HT_.out (by kernel_rfl)) (fun _ _ _ h => h) (Or.inl ⟨by rfl, ?_⟩) ?_ ?_
                      rotate_left
                      · intro w'
                        go_simp
                        with_reducible rfl
                      rotate_left
                      · simp only [Act.put, List.setIfInBounds_toArray, List.set_cons_zero, List.set_cons_succ, i64_w, i32_w]
                        rfl
                      refine pure_ (i := 8) (N := some 48) (v := ?_) (a' := ?_) #[true, true, true, true, false, true, true, true, true, false, false, false] rfl rfl (any_of HT_.out (by kernel_rfl)) (fun _ _ _ h => h) (Or.inl ⟨by rfl, ?_⟩) ?_ ?_
                      rotate_left
                      · intro w'
                        go_simp
                        with_reducible rfl
                      rotate_left
                      · simp only [Act.put, List.setIfInBounds_toArray, List.set_cons_zero, List.set_cons_succ, i64_w, i32_w]
                        rfl
                      refine take_ (i := 4) (N := some 44) (v := ?_) (a' := ?_) #[true, true, true, true, true, true, true, true, true, false, false, false] rfl rfl (take_ofW HT_.out HW_.out (by kernel_rfl)) (fun _ _ _ h => h) (Or.inl ⟨by rfl, ?_⟩) hHeld ?_ ?_
                      rotate_left
                      · rintro w' ⟨s0, s1, s2, s3⟩
                        go_simp
                        with_reducible rfl
                      rotate_left
                      · simp only [Act.put, List.setIfInBounds_toArray, List.set_cons_zero, List.set_cons_succ, i64_w, i32_w]
                        rfl
                      refine take_ (i := 9) (N := some 49) (v := ?_) (a' := ?_) #[true, true, true, true, true, true, true, true, true, true, false, false] rfl rfl (take_ofW HT_.out HW_.out (by kernel_rfl)) (fun _ _ _ h => h) (Or.inl ⟨by rfl, ?_⟩) hHeld ?_ ?_
                      rotate_left
                      · rintro w' ⟨s0, s1, s2, s3⟩
                        go_simp
                        with_reducible rfl
                      rotate_left
                      · simp only [Act.put, List.setIfInBounds_toArray, List.set_cons_zero, List.set_cons_succ, i64_w, i32_w]
                        rfl
                      refine pure_ (i := 10) (N := some 50) (v := ?_) (a' := ?_) #[true, true, true, true, true, true, true, true, true, true, true, false] rfl rfl (any_of HT_.out (by kernel_rfl)) (fun _ _ _ h => h) (Or.inl ⟨by rfl, ?_⟩) ?_ ?_
                      rotate_left
                      · intro w'
                        go_simp
                        with_reducible rfl
                      rotate_left
                      · simp only [Act.put, List.setIfInBounds_toArray, List.set_cons_zero, List.set_cons_succ, i64_w, i32_w]
                        rfl
                      refine one_ (i := 11) (N := none) #[true, true, true, true, true, true, true, true, true, true, true, true] rfl rfl (one_of HT_.out (by kernel_rfl)) (by decide) (fun K hK => ?_)
                      have hs21 : w20.cell? ⟨gb455, 0, none⟩ = some (.int .i64 0) := (blk_cell BK455.out 0).trans rfl
                      have hfs21 := blk_frozen BK455.out 0
                      have hs22 : w20.cell? ⟨gb455, 1, none⟩ = some (.int .i64 0) := (blk_cell BK455.out 1).trans rfl
                      have hfs22 := blk_frozen BK455.out 1
                      have hs23 : w20.cell? ⟨gb455, 2, none⟩ = some (.int .i64 (-1)) := (blk_cell BK455.out 2).trans rfl
                      have hfs23 := blk_frozen BK455.out 2
                      have hs24 : w20.cell? ⟨gb455, 3, none⟩ = some (.int .i64 (-1)) := (blk_cell BK455.out 3).trans rfl
                      have hfs24 := blk_frozen BK455.out 3
                      refine skip_ (w1 := ?_) (by rfl) rfl ?_ ?_
                      rotate_left
                      · go_simp
                        rfl
                      refine hK.out _ _ ⟨((cell_far (p := ⟨gb455, _, none⟩) (by first | exact Nat.ne_of_lt (Nat.lt_of_lt_of_le (by have := World.block_lt_of_cell? _ _ hw457_0; first | rwa [add_block] at this | exact this) GW455.out) | (rw [add_block]; exact Nat.ne_of_lt (Nat.lt_of_lt_of_le (by have := World.block_lt_of_cell? _ _ hw457_0; first | rwa [add_block] at this | exact this) GW455.out)) | (show (Addr.add _ _).block ≠ _; rw [add_block]; exact Nat.ne_of_lt (Nat.lt_of_lt_of_le (by have := World.block_lt_of_cell? _ _ hw457_0; first | rwa [add_block] at this | exact this) GW455.out)) | (dsimp only; exact Nat.ne_of_lt (Nat.lt_of_lt_of_le (by have := World.block_lt_of_cell? _ _ hw457_0; first | rwa [add_block] at this | exact this) GW455.out))) _).trans (((cell_far (p := ⟨gb455, _, none⟩) (by first | exact Nat.ne_of_lt (Nat.lt_of_lt_of_le (by have := World.block_lt_of_cell? _ _ hw457_0; first | rwa [add_block] at this | exact this) GW455.out) | (rw [add_block]; exact Nat.ne_of_lt (Nat.lt_of_lt_of_le (by have := World.block_lt_of_cell? _ _ hw457_0; first | rwa [add_block] at this | exact this) GW455.out)) | (show (Addr.add _ _).block ≠ _; rw [add_block]; exact Nat.ne_of_lt (Nat.lt_of_lt_of_le (by have := World.block_lt_of_cell? _ _ hw457_0; first | rwa [add_block] at this | exact this) GW455.out)) | (dsimp only; exact Nat.ne_of_lt (Nat.lt_of_lt_of_le (by have := World.block_lt_of_cell? _ _ hw457_0; first | rwa [add_block] at this | exact this) GW455.out))) _).trans (((cell_far (p := ⟨gb455, _, none⟩) (by first | exact Nat.ne_of_lt (Nat.lt_of_lt_of_le (by have := World.block_lt_of_cell? _ _ hw457_0; first | rwa [add_block] at this | exact this) GW455.out) | (rw [add_block]; exact Nat.ne_of_lt (Nat.lt_of_lt_of_le (by have := World.block_lt_of_cell? _ _ hw457_0; first | rwa [add_block] at this | exact this) GW455.out)) | (show (Addr.add _ _).block ≠ _; rw [add_block]; exact Nat.ne_of_lt (Nat.lt_of_lt_of_le (by have := World.block_lt_of_cell? _ _ hw457_0; first | rwa [add_block] at this | exact this) GW455.out)) | (dsimp only; exact Nat.ne_of_lt (Nat.lt_of_lt_of_le (by have := World.block_lt_of_cell? _ _ hw457_0; first | rwa [add_block] at this | exact this) GW455.out))) _).trans (((cell_far (p := ⟨gb455, _, none⟩) (by first | exact Nat.ne_of_lt (Nat.lt_of_lt_of_le (by have := World.block_lt_of_cell? _ _ hw457_0; first | rwa [add_block] at this | exact this) GW455.out) | (rw [add_block]; exact Nat.ne_of_lt (Nat.lt_of_lt_of_le (by have := World.block_lt_of_cell? _ _ hw457_0; first | rwa [add_block] at this | exact this) GW455.out)) | (show (Addr.add _ _).block ≠ _; rw [add_block]; exact Nat.ne_of_lt (Nat.lt_of_lt_of_le (by have := World.block_lt_of_cell? _ _ hw457_0; first | rwa [add_block] at this | exact this) GW455.out)) | (dsimp only; exact Nat.ne_of_lt (Nat.lt_of_lt_of_le (by have := World.block_lt_of_cell? _ _ hw457_0; first | rwa [add_block] at this | exact this) GW455.out))) _).trans (hHeld.1)))))))), ((cell_far (p := ⟨gb455, _, none⟩) (by first | exact Nat.ne_of_lt (Nat.lt_of_lt_of_le (by have := World.block_lt_of_cell? _ _ hw457_1; first | rwa [add_block] at this | exact this) GW455.out) | (rw [add_block]; exact Nat.ne_of_lt (Nat.lt_of_lt_of_le (by have := World.block_lt_of_cell? _ _ hw457_1; first | rwa [add_block] at this | exact this) GW455.out)) | (show (Addr.add _ _).block ≠ _; rw [add_block]; exact Nat.ne_of_lt (Nat.lt_of_lt_of_le (by have := World.block_lt_of_cell? _ _ hw457_1; first | rwa [add_block] at this | exact this) GW455.out)) | (dsimp only; exact Nat.ne_of_lt (Nat.lt_of_lt_of_le (by have := World.block_lt_of_cell? _ _ hw457_1; first | rwa [add_block] at this | exact this) GW455.out))) _).trans (((cell_far (p := ⟨gb455, _, none⟩) (by first | exact Nat.ne_of_lt (Nat.lt_of_lt_of_le (by have := World.block_lt_of_cell? _ _ hw457_1; first | rwa [add_block] at this | exact this) GW455.out) | (rw [add_block]; exact Nat.ne_of_lt (Nat.lt_of_lt_of_le (by have := World.block_lt_of_cell? _ _ hw457_1; first | rwa [add_block] at this | exact this) GW455.out)) | (show (Addr.add _ _).block ≠ _; rw [add_block]; exact Nat.ne_of_lt (Nat.lt_of_lt_of_le (by have := World.block_lt_of_cell? _ _ hw457_1; first | rwa [add_block] at this | exact this) GW455.out)) | (dsimp only; exact Nat.ne_of_lt (Nat.lt_of_lt_of_le (by have := World.block_lt_of_cell? _ _ hw457_1; first | rwa [add_block] at this | exact this) GW455.out))) _).trans (((cell_far (p := ⟨gb455, _, none⟩) (by first | exact Nat.ne_of_lt (Nat.lt_of_lt_of_le (by have := World.block_lt_of_cell? _ _ hw457_1; first | rwa [add_block] at this | exact this) GW455.out) | (rw [add_block]; exact Nat.ne_of_lt (Nat.lt_of_lt_of_le (by have := World.block_lt_of_cell? _ _ hw457_1; first | rwa [add_block] at this | exact this) GW455.out)) | (show (Addr.add _ _).block ≠ _; rw [add_block]; exact Nat.ne_of_lt (Nat.lt_of_lt_of_le (by have := World.block_lt_of_cell? _ _ hw457_1; first | rwa [add_block] at this | exact this) GW455.out)) | (dsimp only; exact Nat.ne_of_lt (Nat.lt_of_lt_of_le (by have := World.block_lt_of_cell? _ _ hw457_1; first | rwa [add_block] at this | exact this) GW455.out))) _).trans (((cell_far (p := ⟨gb455, _, none⟩) (by first | exact Nat.ne_of_lt (Nat.lt_of_lt_of_le (by have := World.block_lt_of_cell? _ _ hw457_1; first | rwa [add_block] at this | exact this) GW455.out) | (rw [add_block]; exact Nat.ne_of_lt (Nat.lt_of_lt_of_le (by have := World.block_lt_of_cell? _ _ hw457_1; first | rwa [add_block] at this | exact this) GW455.out)) | (show (Addr.add _ _).block ≠ _; rw [add_block]; exact Nat.ne_of_lt (Nat.lt_of_lt_of_le (by have := World.block_lt_of_cell? _ _ hw457_1; first | rwa [add_block] at this | exact this) GW455.out)) | (dsimp only; exact Nat.ne_of_lt (Nat.lt_of_lt_of_le (by have := World.block_lt_of_cell? _ _ hw457_1; first | rwa [add_block] at this | exact this) GW455.out))) _).trans (hHeld.2.1)))))))), ((cell_far (p := ⟨gb455, _, none⟩) (by first | exact Nat.ne_of_lt (Nat.lt_of_lt_of_le (by have := World.block_lt_of_cell? _ _ hw458_0; first | rwa [add_block] at this | exact this) GW455.out) | (rw [add_block]; exact Nat.ne_of_lt (Nat.lt_of_lt_of_le (by have := World.block_lt_of_cell? _ _ hw458_0; first | rwa [add_block] at this | exact this) GW455.out)) | (show (Addr.add _ _).block ≠ _; rw [add_block]; exact Nat.ne_of_lt (Nat.lt_of_lt_of_le (by have := World.block_lt_of_cell? _ _ hw458_0; first | rwa [add_block] at this | exact this) GW455.out)) | (dsimp only; exact Nat.ne_of_lt (Nat.lt_of_lt_of_le (by have := World.block_lt_of_cell? _ _ hw458_0; first | rwa [add_block] at this | exact this) GW455.out))) _).trans (((cell_far (p := ⟨gb455, _, none⟩) (by first | exact Nat.ne_of_lt (Nat.lt_of_lt_of_le (by have := World.block_lt_of_cell? _ _ hw458_0; first | rwa [add_block] at this | exact this) GW455.out) | (rw [add_block]; exact Nat.ne_of_lt (Nat.lt_of_lt_of_le (by have := World.block_lt_of_cell? _ _ hw458_0; first | rwa [add_block] at this | exact this) GW455.out)) | (show (Addr.add _ _).block ≠ _; rw [add_block]; exact Nat.ne_of_lt (Nat.lt_of_lt_of_le (by have := World.block_lt_of_cell? _ _ hw458_0; first | rwa [add_block] at this | exact this) GW455.out)) | (dsimp only; exact Nat.ne_of_lt (Nat.lt_of_lt_of_le (by have := World.block_lt_of_cell? _ _ hw458_0; first | rwa [add_block] at this | exact this) GW455.out))) _).trans (((cell_far (p := ⟨gb455, _, none⟩) (by first | exact Nat.ne_of_lt (Nat.lt_of_lt_of_le (by have := World.block_lt_of_cell? _ _ hw458_0; first | rwa [add_block] at this | exact this) GW455.out) | (rw [add_block]; exact Nat.ne_of_lt (Nat.lt_of_lt_of_le (by have := World.block_lt_of_cell? _ _ hw458_0; first | rwa [add_block] at this | exact this) GW455.out)) | (show (Addr.add _ _).block ≠ _; rw [add_block]; exact Nat.ne_of_lt (Nat.lt_of_lt_of_le (by have := World.block_lt_of_cell? _ _ hw458_0; first | rwa [add_block] at this | exact this) GW455.out)) | (dsimp only; exact Nat.ne_of_lt (Nat.lt_of_lt_of_le (by have := World.block_lt_of_cell? _ _ hw458_0; first | rwa [add_block] at this | exact this) GW455.out))) _).trans (((cell_far (p := ⟨gb455, _, none⟩) (by first | exact Nat.ne_of_lt (Nat.lt_of_lt_of_le (by have := World.block_lt_of_cell? _ _ hw458_0; first | rwa [add_block] at this | exact this) GW455.out) | (rw [add_block]; exact Nat.ne_of_lt (Nat.lt_of_lt_of_le (by have := World.block_lt_of_cell? _ _ hw458_0; first | rwa [add_block] at this | exact this) GW455.out)) | (show (Addr.add _ _).block ≠ _; rw [add_block]; exact Nat.ne_of_lt (Nat.lt_of_lt_of_le (by have := World.block_lt_of_cell? _ _ hw458_0; first | rwa [add_block] at this | exact this) GW455.out)) | (dsimp only; exact Nat.ne_of_lt (Nat.lt_of_lt_of_le (by have := World.block_lt_of_cell? _ _ hw458_0; first | rwa [add_block] at this | exact this) GW455.out))) _).trans (hHeld.2.2.1)))))))), ((cell_far (p := ⟨gb455, _, none⟩) (by first | exact Nat.ne_of_lt (Nat.lt_of_lt_of_le (by have := World.block_lt_of_cell? _ _ hw458_1; first | rwa [add_block] at this | exact this) GW455.out) | (rw [add_block]; exact Nat.ne_of_lt (Nat.lt_of_lt_of_le (by have := World.block_lt_of_cell? _ _ hw458_1; first | rwa [add_block] at this | exact this) GW455.out)) | (show (Addr.add _ _).block ≠ _; rw [add_block]; exact Nat.ne_of_lt (Nat.lt_of_lt_of_le (by have := World.block_lt_of_cell? _ _ hw458_1; first | rwa [add_block] at this | exact this) GW455.out)) | (dsimp only; exact Nat.ne_of_lt (Nat.lt_of_lt_of_le (by have := World.block_lt_of_cell? _ _ hw458_1; first | rwa [add_block] at this | exact this) GW455.out))) _).trans (((cell_far (p := ⟨gb455, _, none⟩) (by first | exact Nat.ne_of_lt (Nat.lt_of_lt_of_le (by have := World.block_lt_of_cell? _ _ hw458_1; first | rwa [add_block] at this | exact this) GW455.out) | (rw [add_block]; exact Nat.ne_of_lt (Nat.lt_of_lt_of_le (by have := World.block_lt_of_cell? _ _ hw458_1; first | rwa [add_block] at this | exact this) GW455.out)) | (show (Addr.add _ _).block ≠ _; rw [add_block]; exact Nat.ne_of_lt (Nat.lt_of_lt_of_le (by have := World.block_lt_of_cell? _ _ hw458_1; first | rwa [add_block] at this | exact this) GW455.out)) | (dsimp only; exact Nat.ne_of_lt (Nat.lt_of_lt_of_le (by have := World.block_lt_of_cell? _ _ hw458_1; first | rwa [add_block] at this | exact this) GW455.out))) _).trans (((cell_far (p := ⟨gb455, _, none⟩) (by first | exact Nat.ne_of_lt (Nat.lt_of_lt_of_le (by have := World.block_lt_of_cell? _ _ hw458_1; first | rwa [add_block] at this | exact this) GW455.out) | (rw [add_block]; exact Nat.ne_of_lt (Nat.lt_of_lt_of_le (by have := World.block_lt_of_cell? _ _ hw458_1; first | rwa [add_block] at this | exact this) GW455.out)) | (show (Addr.add _ _).block ≠ _; rw [add_block]; exact Nat.ne_of_lt (Nat.lt_of_lt_of_le (by have := World.block_lt_of_cell? _ _ hw458_1; first | rwa [add_block] at this | exact this) GW455.out)) | (dsimp only; exact Nat.ne_of_lt (Nat.lt_of_lt_of_le (by have := World.block_lt_of_cell? _ _ hw458_1; first | rwa [add_block] at this | exact this) GW455.out))) _).trans (((cell_far (p := ⟨gb455, _, none⟩) (by first | exact Nat.ne_of_lt (Nat.lt_of_lt_of_le (by have := World.block_lt_of_cell? _ _ hw458_1; first | rwa [add_block] at this | exact this) GW455.out) | (rw [add_block]; exact Nat.ne_of_lt (Nat.lt_of_lt_of_le (by have := World.block_lt_of_cell? _ _ hw458_1; first | rwa [add_block] at this | exact this) GW455.out)) | (show (Addr.add _ _).block ≠ _; rw [add_block]; exact Nat.ne_of_lt (Nat.lt_of_lt_of_le (by have := World.block_lt_of_cell? _ _ hw458_1; first | rwa [add_block] at this | exact this) GW455.out)) | (dsimp only; exact Nat.ne_of_lt (Nat.lt_of_lt_of_le (by have := World.block_lt_of_cell? _ _ hw458_1; first | rwa [add_block] at this | exact this) GW455.out))) _).trans (hHeld.2.2.2))))))))⟩ (fun hHeld => ?_)
                      clear hK K
                      refine done_ (done_of HT_.out (by kernel_rfl)) ?_
                      try go_wp2
                      go_meet
                      case rel => exact ⟨_, (0), ((rd_T58 y447 x6_1).f1), ((-1)), ((rd_T58 y447 x6_1).f1), H', ⟨by have := HK1.out; first | omega | exact Nat.le_refl _⟩, ⟨by (with_reducible repeat (first | apply Kd.R_alloc | apply Kd.R_drewN | apply Kd.R_drew)); exact Kd.R_mono (Kd.R_far (p := ⟨gb455, 3, none⟩) (Kd.R_far (p := ⟨gb455, 2, none⟩) (Kd.R_far (p := ⟨gb455, 1, none⟩) (Kd.R_far (p := ⟨gb455, 0, none⟩) (Kd.R_mono HO_4.out (fun k_ hk => (⟨hk, hk⟩ : _ ∧ k_ ≠ gb455))) (fun _ hk => hk.2) (.int .i64 0)) (fun _ hk => hk.2) (.int .i64 ((rd_T58 y447 x6_1).f1))) (fun _ hk => hk.2) (.int .i64 (-1))) (fun _ hk => hk.2) (.int .i64 ((rd_T58 y447 x6_1).f1))) (fun _ hk => hk.1)⟩, ⟨by (with_reducible repeat (first | refine blk_drewN ?_ _ | refine blk_drew ?_ | refine blk_alloc ?_ _)); refine blk_put (cs := #[.int .i64 0, .int .i64 ((rd_T58 y447 x6_1).f1), .int .i64 (-1), .int .i64 (-1)]) ?_ 3 _ rfl; (with_reducible repeat (first | refine blk_drewN ?_ _ | refine blk_drew ?_ | refine blk_alloc ?_ _)); refine blk_put (cs := #[.int .i64 0, .int .i64 ((rd_T58 y447 x6_1).f1), .int .i64 (-1), .int .i64 (-1)]) ?_ 2 _ rfl; (with_reducible repeat (first | refine blk_drewN ?_ _ | refine blk_drew ?_ | refine blk_alloc ?_ _)); refine blk_put (cs := #[.int .i64 0, .int .i64 0, .int .i64 (-1), .int .i64 (-1)]) ?_ 1 _ rfl; (with_reducible repeat (first | refine blk_drewN ?_ _ | refine blk_drew ?_ | refine blk_alloc ?_ _)); refine blk_put (cs := #[.int .i64 0, .int .i64 0, .int .i64 (-1), .int .i64 (-1)]) ?_ 0 _ rfl; (with_reducible repeat (first | refine blk_drewN ?_ _ | refine blk_drew ?_ | refine blk_alloc ?_ _)); exact BK455.out⟩, ⟨by repeat (first | (with_reducible first | exact HB.out | apply below_alloc | apply pw_below_drewN | apply below_drew1 | refine below_set ?_ GE455.out) | exact HB.out)⟩⟩
                    · rw [if_neg c18] at H
                      have c18b0 : (((rd_T58 y447 x6_1).f0) == 1) = false := beq_eq_false_iff_ne.mpr c18
                      have c18b1 : (((rd_T58 y447 x6_1).f0) != 1) = true := bne_iff_ne.mpr c18
                      (first | rw [c18b0] | (simp only [i64_w, i32_w]; rw [c18b0]) | skip)
                      have H' := Aside0.mk H
                      clear H
                      go_wp2
                      go_meet
                      case rel => exact ⟨_, (0), (0), ((-1)), ((-1)), H', ⟨by have := HK1.out; first | omega | exact Nat.le_refl _⟩, ⟨by (with_reducible repeat (first | apply Kd.R_alloc | apply Kd.R_drewN | apply Kd.R_drew)); exact Kd.R_mono (Kd.R_far (p := ⟨gb455, 3, none⟩) (Kd.R_far (p := ⟨gb455, 2, none⟩) (Kd.R_far (p := ⟨gb455, 1, none⟩) (Kd.R_far (p := ⟨gb455, 0, none⟩) (Kd.R_mono HO_4.out (fun k_ hk => (⟨hk, hk.2⟩ : _ ∧ k_ ≠ gb455))) (fun _ hk => hk.2) (.int .i64 0)) (fun _ hk => hk.2) (.int .i64 0)) (fun _ hk => hk.2) (.int .i64 (-1))) (fun _ hk => hk.2) (.int .i64 (-1))) (fun _ hk => hk.1.2)⟩, ⟨by (with_reducible repeat (first | refine blk_drewN ?_ _ | refine blk_drew ?_ | refine blk_alloc ?_ _)); refine blk_put (cs := #[.int .i64 0, .int .i64 0, .int .i64 (-1), .int .i64 0]) ?_ 3 _ rfl; (with_reducible repeat (first | refine blk_drewN ?_ _ | refine blk_drew ?_ | refine blk_alloc ?_ _)); refine blk_put (cs := #[.int .i64 0, .int .i64 0, .int .i64 0, .int .i64 0]) ?_ 2 _ rfl; (with_reducible repeat (first | refine blk_drewN ?_ _ | refine blk_drew ?_ | refine blk_alloc ?_ _)); refine blk_put (cs := #[.int .i64 0, .int .i64 0, .int .i64 0, .int .i64 0]) ?_ 1 _ rfl; (with_reducible repeat (first | refine blk_drewN ?_ _ | refine blk_drew ?_ | refine blk_alloc ?_ _)); refine blk_put (cs := #[.int .i64 0, .int .i64 0, .int .i64 0, .int .i64 0]) ?_ 0 _ rfl; (with_reducible repeat (first | refine blk_drewN ?_ _ | refine blk_drew ?_ | refine blk_alloc ?_ _)); exact BK455.out⟩, ⟨by repeat (first | (with_reducible first | exact HB.out | apply below_alloc | apply pw_below_drewN | apply below_drew1 | refine below_set ?_ GE455.out) | exact HB.out)⟩⟩
                  case rest =>
                    clear HC14
                    try clear c1
                    try clear c2
                    try clear p2
                    try clear c4
                    try clear c4b0
                    try clear c4b1
                    try clear p4
                    try clear q4
                    try clear hx4
                    try clear c5
                    try clear c5b0
                    try clear c5b1
                    try clear c7
                    try clear c7b0
                    try clear c7b1
                    try clear q9
                    try clear c11
                    try clear c11b0
                    try clear c12
                    try clear c12b0
                    try clear c13
                    try clear c13b0
                    try clear c18
                    try clear c18b0
                    try clear c18b1
                    try clear hcz17_0
                    try clear hcz17_1
                    try clear hcz17_2
                    try clear hcz17_3
                    try clear hfz17_0
                    try clear hfz17_1
                    try clear hfz17_2
                    try clear hfz17_3
                    try clear hx456_0
                    try clear hx456_1
                    try clear hx457_0
                    try clear hx457_1
                    try clear hx458_0
                    try clear hx458_1
                    try clear p2
                    try clear p456
                    try clear p457
                    try clear p458
                    try clear q456
                    try clear q457
                    try clear q458
                    try clear q9
                    obtain ⟨kq, x456000_13, x456001_13, x456002_13, x456003_13, HA, HJ13, HO_4, BK455, HB⟩ := hcut
                    cases kq with
                    | zero => exact absurd HA.out (by simp [purflinglaw13_ColumnsBare.j1])
                    | succ kj13 =>
                      have H := HA.out
                      clear HA
                      simp only [purflinglaw13_ColumnsBare.j1] at H
                      by_cases c25 : 0 ≤ x6_1
                      · rw [if_pos c25] at H
                        have c25b0 : decide (0 ≤ x6_1) = true := decide_eq_true c25
                        clear c25
                        by_cases c26 : x6_1 < (y447.length : Int)
                        · rw [if_pos c26] at H
                          have c26b0 : decide (x6_1 < (y447.length : Int)) = true := decide_eq_true c26
                          clear c26
                          by_cases c27 : ((rd_T58 y447 x6_1).f0) = 2
                          · rw [if_pos c27] at H
                            have c27b0 : (((rd_T58 y447 x6_1).f0) == 2) = true := beq_iff_eq.mpr c27
                            have c27b1 : (((rd_T58 y447 x6_1).f0) != 2) = false := bne_eq_false_iff_eq.mpr c27
                            clear c27
                            by_cases c28 : x6_1 < (t451.length : Int)
                            · rw [if_pos c28] at H
                              have c28b0 : decide (x6_1 < (t451.length : Int)) = true := decide_eq_true c28
                              clear c28
                              by_cases c29 : (!(((rd_T62 t451 x6_1).f0) == 0) || (!(((rd_T62 t451 x6_1).f1) == 0) || (!(((rd_T62 t451 x6_1).f2) == ((rd_T58 y447 x6_1).f1)) || (!(((rd_T62 t451 x6_1).f3) == (-1)))))) = true
                              · rw [if_pos c29] at H
                                have c29b0 : (!(((rd_T62 t451 x6_1).f0) == 0) || (!(((rd_T62 t451 x6_1).f1) == 0) || (!(((rd_T62 t451 x6_1).f2) == ((rd_T58 y447 x6_1).f1)) || (!(((rd_T62 t451 x6_1).f3) == (-1)))))) = true := c29
                                clear c29
                                obtain rfl := Option.some.inj H
                                have p459 : 0 ≤ (x6_1 : Int) := of_decide_eq_true (by first | (with_reducible assumption) | assumption)
                                have q459 : x6_1 < (y447.length : Int) := of_decide_eq_true (by first | (with_reducible assumption) | assumption)
                                obtain ⟨ad459, e459, hx459_0, hx459_1⟩ := at_T58 HR450.out x6_1 p459 q459
                                obtain rfl : ad456 = ad459 := (by injection e459)
                                replace hx459_0 := (HB.out.cell (World.block_lt_of_cell? w _ hx459_0)).trans hx459_0
                                replace hx459_1 := (HB.out.cell (World.block_lt_of_cell? w _ hx459_1)).trans hx459_1
                                replace p459 := eq_true p459
                                replace q459 := eq_true q459
                                have p460 : 0 ≤ (x6_1 : Int) := of_decide_eq_true (by first | (with_reducible assumption) | assumption)
                                have q460 : x6_1 < (y447.length : Int) := of_decide_eq_true (by first | (with_reducible assumption) | assumption)
                                obtain ⟨ad460, e460, hx460_0, hx460_1⟩ := at_T58 HR450.out x6_1 p460 q460
                                obtain rfl : ad456 = ad460 := (by injection e460)
                                replace hx460_0 := (HB.out.cell (World.block_lt_of_cell? w _ hx460_0)).trans hx460_0
                                replace hx460_1 := (HB.out.cell (World.block_lt_of_cell? w _ hx460_1)).trans hx460_1
                                replace p460 := eq_true p460
                                replace q460 := eq_true q460
                                have hcz30_0 : wc.cell? ⟨gb455, 0, none⟩ = some (.int .i64 x456000_13) := (blk_cell BK455.out 0).trans rfl
                                have hcz30_1 : wc.cell? ⟨gb455, 1, none⟩ = some (.int .i64 x456001_13) := (blk_cell BK455.out 1).trans rfl
                                have hcz30_2 : wc.cell? ⟨gb455, 2, none⟩ = some (.int .i64 x456002_13) := (blk_cell BK455.out 2).trans rfl
                                have hcz30_3 : wc.cell? ⟨gb455, 3, none⟩ = some (.int .i64 x456003_13) := (blk_cell BK455.out 3).trans rfl
                                have hfz30_0 := blk_frozen BK455.out 0
                                have hfz30_1 := blk_frozen BK455.out 1
                                have hfz30_2 := blk_frozen BK455.out 2
                                have hfz30_3 := blk_frozen BK455.out 3
                                try go_wp2
                                have n0_ : Aside0 (Kd.R k62 62 ((((wc.setCell ⟨gb455, 0, none⟩ (.int .i64 0)).setCell ⟨gb455, 1, none⟩ (.int .i64 0)).setCell ⟨gb455, 2, none⟩ (.int .i64 ((rd_T58 y447 x6_1).f1))).setCell ⟨gb455, 3, none⟩ (.int .i64 (-1))) w.heap.size (fun k_ => k_ ≠ gb455) (.slice Ao15 t451.length co15) t451) := ⟨by (with_reducible repeat (first | apply Kd.R_alloc | apply Kd.R_drewN | apply Kd.R_drew)); exact Kd.R_mono (Kd.R_far (p := ⟨gb455, 3, none⟩) (Kd.R_far (p := ⟨gb455, 2, none⟩) (Kd.R_far (p := ⟨gb455, 1, none⟩) (Kd.R_far (p := ⟨gb455, 0, none⟩) (Kd.R_mono HO_4.out (fun k_ hk => (⟨hk, hk⟩ : _ ∧ k_ ≠ gb455))) (fun _ hk => hk.2) (.int .i64 0)) (fun _ hk => hk.2) (.int .i64 0)) (fun _ hk => hk.2) (.int .i64 ((rd_T58 y447 x6_1).f1))) (fun _ hk => hk.2) (.int .i64 (-1))) (fun _ hk => hk.1)⟩
                                have n1_ : Aside0 (((((wc.setCell ⟨gb455, 0, none⟩ (.int .i64 0)).setCell ⟨gb455, 1, none⟩ (.int .i64 0)).setCell ⟨gb455, 2, none⟩ (.int .i64 ((rd_T58 y447 x6_1).f1))).setCell ⟨gb455, 3, none⟩ (.int .i64 (-1))).heap[gb455]? = some (.cells #[.int .i64 0, .int .i64 0, .int .i64 ((rd_T58 y447 x6_1).f1), .int .i64 (-1)] 62 (0, 0))) := ⟨by (with_reducible repeat (first | refine blk_drewN ?_ _ | refine blk_drew ?_ | refine blk_alloc ?_ _)); refine blk_put (cs := #[.int .i64 0, .int .i64 0, .int .i64 ((rd_T58 y447 x6_1).f1), .int .i64 x456003_13]) ?_ 3 _ rfl; (with_reducible repeat (first | refine blk_drewN ?_ _ | refine blk_drew ?_ | refine blk_alloc ?_ _)); refine blk_put (cs := #[.int .i64 0, .int .i64 0, .int .i64 x456002_13, .int .i64 x456003_13]) ?_ 2 _ rfl; (with_reducible repeat (first | refine blk_drewN ?_ _ | refine blk_drew ?_ | refine blk_alloc ?_ _)); refine blk_put (cs := #[.int .i64 0, .int .i64 x456001_13, .int .i64 x456002_13, .int .i64 x456003_13]) ?_ 1 _ rfl; (with_reducible repeat (first | refine blk_drewN ?_ _ | refine blk_drew ?_ | refine blk_alloc ?_ _)); refine blk_put (cs := #[.int .i64 x456000_13, .int .i64 x456001_13, .int .i64 x456002_13, .int .i64 x456003_13]) ?_ 0 _ rfl; (with_reducible repeat (first | refine blk_drewN ?_ _ | refine blk_drew ?_ | refine blk_alloc ?_ _)); exact BK455.out⟩
                                have n2_ : Aside0 (Below w.heap.size w ((((wc.setCell ⟨gb455, 0, none⟩ (.int .i64 0)).setCell ⟨gb455, 1, none⟩ (.int .i64 0)).setCell ⟨gb455, 2, none⟩ (.int .i64 ((rd_T58 y447 x6_1).f1))).setCell ⟨gb455, 3, none⟩ (.int .i64 (-1)))) := ⟨by repeat (first | (with_reducible first | exact HB.out | apply below_alloc | apply pw_below_drewN | apply below_drew1 | refine below_set ?_ GE455.out) | exact HB.out)⟩
                                (try clear HO_4)
                                (try clear BK455)
                                (try clear HB)
                                generalize ((((wc.setCell ⟨gb455, 0, none⟩ (.int .i64 0)).setCell ⟨gb455, 1, none⟩ (.int .i64 0)).setCell ⟨gb455, 2, none⟩ (.int .i64 ((rd_T58 y447 x6_1).f1))).setCell ⟨gb455, 3, none⟩ (.int .i64 (-1))) = w31 at n0_ n1_ n2_ ⊢
                                have HO_4 := n0_
                                have BK455 := n1_
                                have HB := n2_
                                clear n0_ n1_ n2_
                                have n0_ := Aside0.mk (Kd.R_drew HO_4.out)
                                have n1_ := Aside0.mk (blk_drew BK455.out)
                                have n2_ := Aside0.mk (below_drew1 HB.out)
                                clear HO_4
                                clear BK455
                                clear HB
                                have HO_4 := n0_
                                have BK455 := n1_
                                have HB := n2_
                                clear n0_ n1_ n2_
                                have p461 : 0 ≤ (x6_1 : Int) := of_decide_eq_true (by first | (with_reducible assumption) | assumption)
                                have q461 : x6_1 < (t451.length : Int) := of_decide_eq_true (by first | (with_reducible assumption) | assumption)
                                obtain ⟨ad461, e461, hx461_0, hx461_1, hx461_2, hx461_3⟩ := at_T62 (Kd.R_reads' HO_4.out).2.2 x6_1 p461 q461
                                cases e461
                                replace p461 := eq_true p461
                                replace q461 := eq_true q461
                                refine start_ (n := 6) (S := fun w' => w'.cell? ⟨gb455, 0, none⟩ = some (.int .i64 0) ∧ w'.cell? ⟨gb455, 1, none⟩ = some (.int .i64 0) ∧ w'.cell? ⟨gb455, 2, none⟩ = some (.int .i64 ((rd_T58 y447 x6_1).f1)) ∧ w'.cell? ⟨gb455, 3, none⟩ = some (.int .i64 (-1)) ∧ w'.cell? (ad461.add ((x6_1).toNat * 4)) = some (.int .i64 ((rd_T62 t451 x6_1).f0)) ∧ w'.cell? ⟨(ad461.add ((x6_1).toNat * 4)).block, (ad461.add ((x6_1).toNat * 4)).off + 1, none⟩ = some (.int .i64 ((rd_T62 t451 x6_1).f1)) ∧ w'.cell? ⟨(ad461.add ((x6_1).toNat * 4)).block, (ad461.add ((x6_1).toNat * 4)).off + 2, none⟩ = some (.int .i64 ((rd_T62 t451 x6_1).f2)) ∧ w'.cell? ⟨(ad461.add ((x6_1).toNat * 4)).block, (ad461.add ((x6_1).toNat * 4)).off + 3, none⟩ = some (.int .i64 ((rd_T62 t451 x6_1).f3))) (ds := []) #[false, false, false, false, false, false] (by kernel_rfl) rfl rfl ⟨(blk_cell BK455.out 0).trans rfl, (blk_cell BK455.out 1).trans rfl, (blk_cell BK455.out 2).trans rfl, (blk_cell BK455.out 3).trans rfl, hx461_0, hx461_1, hx461_2, hx461_3⟩ (fun hHeld => ?_)
                                generalize w31.drew = w32 at HO_4 BK455 HB hx461_0 hx461_1 hx461_2 hx461_3 hHeld ⊢
                                refine pure_ (i := 0) (N := some 63) (v := ?_) (a' := ?_) #[true, false, false, false, false, false] rfl rfl (by kernel_rfl) (fun _ _ _ h => h) (Or.inl ⟨by rfl, ?_⟩) ?_ ?_
                                rotate_left
                                · intro w'
                                  go_simp
                                  with_reducible rfl
                                rotate_left
                                · simp only [Act.put, List.setIfInBounds_toArray, List.set_cons_zero, List.set_cons_succ, i64_w, i32_w]
                                  rfl
                                refine pure_ (i := 1) (N := some 64) (v := ?_) (a' := ?_) #[true, true, false, false, false, false] rfl rfl (by kernel_rfl) (fun _ _ _ h => h) (Or.inl ⟨by rfl, ?_⟩) ?_ ?_
                                rotate_left
                                · intro w'
                                  go_simp
                                  with_reducible rfl
                                rotate_left
                                · simp only [Act.put, List.setIfInBounds_toArray, List.set_cons_zero, List.set_cons_succ, i64_w, i32_w]
                                  rfl
                                refine pure_ (i := 2) (N := some 65) (v := ?_) (a' := ?_) #[true, true, true, false, false, false] rfl rfl (by kernel_rfl) (fun _ _ _ h => h) (Or.inl ⟨by rfl, ?_⟩) ?_ ?_
                                rotate_left
                                · intro w'
                                  go_simp
                                  with_reducible rfl
                                rotate_left
                                · simp only [Act.put, List.setIfInBounds_toArray, List.set_cons_zero, List.set_cons_succ, i64_w, i32_w]
                                  rfl
                                refine take_ (i := 3) (N := some 66) (v := ?_) (a' := ?_) #[true, true, true, true, false, false] rfl rfl (by kernel_rfl) (fun _ _ _ h => h) (Or.inl ⟨by rfl, ?_⟩) hHeld ?_ ?_
                                rotate_left
                                · rintro w' ⟨s0, s1, s2, s3, s4, s5, s6, s7⟩
                                  go_simp
                                  with_reducible rfl
                                rotate_left
                                · simp only [Act.put, List.setIfInBounds_toArray, List.set_cons_zero, List.set_cons_succ, i64_w, i32_w]
                                  rfl
                                refine take_ (i := 4) (N := some 67) (v := ?_) (a' := ?_) #[true, true, true, true, true, false] rfl rfl (by kernel_rfl) (fun _ _ _ h => h) (Or.inl ⟨by rfl, ?_⟩) hHeld ?_ ?_
                                rotate_left
                                · rintro w' ⟨s0, s1, s2, s3, s4, s5, s6, s7⟩
                                  go_simp
                                  with_reducible rfl
                                rotate_left
                                · simp only [Act.put, List.setIfInBounds_toArray, List.set_cons_zero, List.set_cons_succ, i64_w, i32_w]
                                  rfl
                                refine pure_ (i := 5) (N := some 68) (v := ?_) (a' := ?_) #[true, true, true, true, true, true] rfl rfl (by kernel_rfl) (fun _ _ _ h => h) (Or.inl ⟨by rfl, ?_⟩) ?_ ?_
                                rotate_left
                                · intro w'
                                  go_simp
                                  with_reducible rfl
                                rotate_left
                                · simp only [Act.put, List.setIfInBounds_toArray, List.set_cons_zero, List.set_cons_succ, i64_w, i32_w]
                                  rfl
                                refine done_ (by kernel_rfl) ?_
                                try go_wp2
                                go_ret
                                exact ⟨by first | rfl | (simp [errW_none, errW_some] <;> rfl) | (simp only [← hji3]; first | rfl | (simp [errW_none, errW_some] <;> rfl)) | (simp [*, errW_none, errW_some] <;> rfl), by repeat (first | (with_reducible first | exact HB.out | apply below_alloc | apply pw_below_drewN | apply below_drew1 | refine below_set ?_ GE455.out) | exact HB.out)⟩
                              · rw [if_neg c29] at H
                                have c29b0 : (!(((rd_T62 t451 x6_1).f0) == 0) || (!(((rd_T62 t451 x6_1).f1) == 0) || (!(((rd_T62 t451 x6_1).f2) == ((rd_T58 y447 x6_1).f1)) || (!(((rd_T62 t451 x6_1).f3) == (-1)))))) = false := by simpa using c29
                                clear c29
                                have H' := Aside0.mk H
                                clear H
                                have p459 : 0 ≤ (x6_1 : Int) := of_decide_eq_true (by first | (with_reducible assumption) | assumption)
                                have q459 : x6_1 < (y447.length : Int) := of_decide_eq_true (by first | (with_reducible assumption) | assumption)
                                obtain ⟨ad459, e459, hx459_0, hx459_1⟩ := at_T58 HR450.out x6_1 p459 q459
                                obtain rfl : ad456 = ad459 := (by injection e459)
                                replace hx459_0 := (HB.out.cell (World.block_lt_of_cell? w _ hx459_0)).trans hx459_0
                                replace hx459_1 := (HB.out.cell (World.block_lt_of_cell? w _ hx459_1)).trans hx459_1
                                replace p459 := eq_true p459
                                replace q459 := eq_true q459
                                have p460 : 0 ≤ (x6_1 : Int) := of_decide_eq_true (by first | (with_reducible assumption) | assumption)
                                have q460 : x6_1 < (y447.length : Int) := of_decide_eq_true (by first | (with_reducible assumption) | assumption)
                                obtain ⟨ad460, e460, hx460_0, hx460_1⟩ := at_T58 HR450.out x6_1 p460 q460
                                obtain rfl : ad456 = ad460 := (by injection e460)
                                replace hx460_0 := (HB.out.cell (World.block_lt_of_cell? w _ hx460_0)).trans hx460_0
                                replace hx460_1 := (HB.out.cell (World.block_lt_of_cell? w _ hx460_1)).trans hx460_1
                                replace p460 := eq_true p460
                                replace q460 := eq_true q460
                                have hcz33_0 : wc.cell? ⟨gb455, 0, none⟩ = some (.int .i64 x456000_13) := (blk_cell BK455.out 0).trans rfl
                                have hcz33_1 : wc.cell? ⟨gb455, 1, none⟩ = some (.int .i64 x456001_13) := (blk_cell BK455.out 1).trans rfl
                                have hcz33_2 : wc.cell? ⟨gb455, 2, none⟩ = some (.int .i64 x456002_13) := (blk_cell BK455.out 2).trans rfl
                                have hcz33_3 : wc.cell? ⟨gb455, 3, none⟩ = some (.int .i64 x456003_13) := (blk_cell BK455.out 3).trans rfl
                                have hfz33_0 := blk_frozen BK455.out 0
                                have hfz33_1 := blk_frozen BK455.out 1
                                have hfz33_2 := blk_frozen BK455.out 2
                                have hfz33_3 := blk_frozen BK455.out 3
                                try go_wp2
                                have n0_ : Aside0 (Kd.R k62 62 ((((wc.setCell ⟨gb455, 0, none⟩ (.int .i64 0)).setCell ⟨gb455, 1, none⟩ (.int .i64 0)).setCell ⟨gb455, 2, none⟩ (.int .i64 ((rd_T58 y447 x6_1).f1))).setCell ⟨gb455, 3, none⟩ (.int .i64 (-1))) w.heap.size (fun k_ => k_ ≠ gb455) (.slice Ao15 t451.length co15) t451) := ⟨by (with_reducible repeat (first | apply Kd.R_alloc | apply Kd.R_drewN | apply Kd.R_drew)); exact Kd.R_mono (Kd.R_far (p := ⟨gb455, 3, none⟩) (Kd.R_far (p := ⟨gb455, 2, none⟩) (Kd.R_far (p := ⟨gb455, 1, none⟩) (Kd.R_far (p := ⟨gb455, 0, none⟩) (Kd.R_mono HO_4.out (fun k_ hk => (⟨hk, hk⟩ : _ ∧ k_ ≠ gb455))) (fun _ hk => hk.2) (.int .i64 0)) (fun _ hk => hk.2) (.int .i64 0)) (fun _ hk => hk.2) (.int .i64 ((rd_T58 y447 x6_1).f1))) (fun _ hk => hk.2) (.int .i64 (-1))) (fun _ hk => hk.1)⟩
                                have n1_ : Aside0 (((((wc.setCell ⟨gb455, 0, none⟩ (.int .i64 0)).setCell ⟨gb455, 1, none⟩ (.int .i64 0)).setCell ⟨gb455, 2, none⟩ (.int .i64 ((rd_T58 y447 x6_1).f1))).setCell ⟨gb455, 3, none⟩ (.int .i64 (-1))).heap[gb455]? = some (.cells #[.int .i64 0, .int .i64 0, .int .i64 ((rd_T58 y447 x6_1).f1), .int .i64 (-1)] 62 (0, 0))) := ⟨by (with_reducible repeat (first | refine blk_drewN ?_ _ | refine blk_drew ?_ | refine blk_alloc ?_ _)); refine blk_put (cs := #[.int .i64 0, .int .i64 0, .int .i64 ((rd_T58 y447 x6_1).f1), .int .i64 x456003_13]) ?_ 3 _ rfl; (with_reducible repeat (first | refine blk_drewN ?_ _ | refine blk_drew ?_ | refine blk_alloc ?_ _)); refine blk_put (cs := #[.int .i64 0, .int .i64 0, .int .i64 x456002_13, .int .i64 x456003_13]) ?_ 2 _ rfl; (with_reducible repeat (first | refine blk_drewN ?_ _ | refine blk_drew ?_ | refine blk_alloc ?_ _)); refine blk_put (cs := #[.int .i64 0, .int .i64 x456001_13, .int .i64 x456002_13, .int .i64 x456003_13]) ?_ 1 _ rfl; (with_reducible repeat (first | refine blk_drewN ?_ _ | refine blk_drew ?_ | refine blk_alloc ?_ _)); refine blk_put (cs := #[.int .i64 x456000_13, .int .i64 x456001_13, .int .i64 x456002_13, .int .i64 x456003_13]) ?_ 0 _ rfl; (with_reducible repeat (first | refine blk_drewN ?_ _ | refine blk_drew ?_ | refine blk_alloc ?_ _)); exact BK455.out⟩
                                have n2_ : Aside0 (Below w.heap.size w ((((wc.setCell ⟨gb455, 0, none⟩ (.int .i64 0)).setCell ⟨gb455, 1, none⟩ (.int .i64 0)).setCell ⟨gb455, 2, none⟩ (.int .i64 ((rd_T58 y447 x6_1).f1))).setCell ⟨gb455, 3, none⟩ (.int .i64 (-1)))) := ⟨by repeat (first | (with_reducible first | exact HB.out | apply below_alloc | apply pw_below_drewN | apply below_drew1 | refine below_set ?_ GE455.out) | exact HB.out)⟩
                                (try clear HO_4)
                                (try clear BK455)
                                (try clear HB)
                                generalize ((((wc.setCell ⟨gb455, 0, none⟩ (.int .i64 0)).setCell ⟨gb455, 1, none⟩ (.int .i64 0)).setCell ⟨gb455, 2, none⟩ (.int .i64 ((rd_T58 y447 x6_1).f1))).setCell ⟨gb455, 3, none⟩ (.int .i64 (-1))) = w34 at n0_ n1_ n2_ ⊢
                                have HO_4 := n0_
                                have BK455 := n1_
                                have HB := n2_
                                clear n0_ n1_ n2_
                                have n0_ := Aside0.mk (Kd.R_drew HO_4.out)
                                have n1_ := Aside0.mk (blk_drew BK455.out)
                                have n2_ := Aside0.mk (below_drew1 HB.out)
                                clear HO_4
                                clear BK455
                                clear HB
                                have HO_4 := n0_
                                have BK455 := n1_
                                have HB := n2_
                                clear n0_ n1_ n2_
                                have p461 : 0 ≤ (x6_1 : Int) := of_decide_eq_true (by first | (with_reducible assumption) | assumption)
                                have q461 : x6_1 < (t451.length : Int) := of_decide_eq_true (by first | (with_reducible assumption) | assumption)
                                obtain ⟨ad461, e461, hx461_0, hx461_1, hx461_2, hx461_3⟩ := at_T62 (Kd.R_reads' HO_4.out).2.2 x6_1 p461 q461
                                cases e461
                                replace p461 := eq_true p461
                                replace q461 := eq_true q461
                                refine start_ (n := 6) (S := fun w' => w'.cell? ⟨gb455, 0, none⟩ = some (.int .i64 0) ∧ w'.cell? ⟨gb455, 1, none⟩ = some (.int .i64 0) ∧ w'.cell? ⟨gb455, 2, none⟩ = some (.int .i64 ((rd_T58 y447 x6_1).f1)) ∧ w'.cell? ⟨gb455, 3, none⟩ = some (.int .i64 (-1)) ∧ w'.cell? (ad461.add ((x6_1).toNat * 4)) = some (.int .i64 ((rd_T62 t451 x6_1).f0)) ∧ w'.cell? ⟨(ad461.add ((x6_1).toNat * 4)).block, (ad461.add ((x6_1).toNat * 4)).off + 1, none⟩ = some (.int .i64 ((rd_T62 t451 x6_1).f1)) ∧ w'.cell? ⟨(ad461.add ((x6_1).toNat * 4)).block, (ad461.add ((x6_1).toNat * 4)).off + 2, none⟩ = some (.int .i64 ((rd_T62 t451 x6_1).f2)) ∧ w'.cell? ⟨(ad461.add ((x6_1).toNat * 4)).block, (ad461.add ((x6_1).toNat * 4)).off + 3, none⟩ = some (.int .i64 ((rd_T62 t451 x6_1).f3))) (ds := []) #[false, false, false, false, false, false] (by kernel_rfl) rfl rfl ⟨(blk_cell BK455.out 0).trans rfl, (blk_cell BK455.out 1).trans rfl, (blk_cell BK455.out 2).trans rfl, (blk_cell BK455.out 3).trans rfl, hx461_0, hx461_1, hx461_2, hx461_3⟩ (fun hHeld => ?_)
                                generalize w34.drew = w35 at HO_4 BK455 HB hx461_0 hx461_1 hx461_2 hx461_3 hHeld ⊢
                                refine pure_ (i := 0) (N := some 63) (v := ?_) (a' := ?_) #[true, false, false, false, false, false] rfl rfl (by kernel_rfl) (fun _ _ _ h => h) (Or.inl ⟨by rfl, ?_⟩) ?_ ?_
                                rotate_left
                                · intro w'
                                  go_simp
                                  with_reducible rfl
                                rotate_left
                                · simp only [Act.put, List.setIfInBounds_toArray, List.set_cons_zero, List.set_cons_succ, i64_w, i32_w]
                                  rfl
                                refine pure_ (i := 1) (N := some 64) (v := ?_) (a' := ?_) #[true, true, false, false, false, false] rfl rfl (by kernel_rfl) (fun _ _ _ h => h) (Or.inl ⟨by rfl, ?_⟩) ?_ ?_
                                rotate_left
                                · intro w'
                                  go_simp
                                  with_reducible rfl
                                rotate_left
                                · simp only [Act.put, List.setIfInBounds_toArray, List.set_cons_zero, List.set_cons_succ, i64_w, i32_w]
                                  rfl
                                refine pure_ (i := 2) (N := some 65) (v := ?_) (a' := ?_) #[true, true, true, false, false, false] rfl rfl (by kernel_rfl) (fun _ _ _ h => h) (Or.inl ⟨by rfl, ?_⟩) ?_ ?_
                                rotate_left
                                · intro w'
                                  go_simp
                                  with_reducible rfl
                                rotate_left
                                · simp only [Act.put, List.setIfInBounds_toArray, List.set_cons_zero, List.set_cons_succ, i64_w, i32_w]
                                  rfl
                                refine take_ (i := 3) (N := some 66) (v := ?_) (a' := ?_) #[true, true, true, true, false, false] rfl rfl (by kernel_rfl) (fun _ _ _ h => h) (Or.inl ⟨by rfl, ?_⟩) hHeld ?_ ?_
                                rotate_left
                                · rintro w' ⟨s0, s1, s2, s3, s4, s5, s6, s7⟩
                                  go_simp
                                  with_reducible rfl
                                rotate_left
                                · simp only [Act.put, List.setIfInBounds_toArray, List.set_cons_zero, List.set_cons_succ, i64_w, i32_w]
                                  rfl
                                refine take_ (i := 4) (N := some 67) (v := ?_) (a' := ?_) #[true, true, true, true, true, false] rfl rfl (by kernel_rfl) (fun _ _ _ h => h) (Or.inl ⟨by rfl, ?_⟩) hHeld ?_ ?_
                                rotate_left
                                · rintro w' ⟨s0, s1, s2, s3, s4, s5, s6, s7⟩
                                  go_simp
                                  with_reducible rfl
                                rotate_left
                                · simp only [Act.put, List.setIfInBounds_toArray, List.set_cons_zero, List.set_cons_succ, i64_w, i32_w]
                                  rfl
                                refine pure_ (i := 5) (N := some 68) (v := ?_) (a' := ?_) #[true, true, true, true, true, true] rfl rfl (by kernel_rfl) (fun _ _ _ h => h) (Or.inl ⟨by rfl, ?_⟩) ?_ ?_
                                rotate_left
                                · intro w'
                                  go_simp
                                  with_reducible rfl
                                rotate_left
                                · simp only [Act.put, List.setIfInBounds_toArray, List.set_cons_zero, List.set_cons_succ, i64_w, i32_w]
                                  rfl
                                refine done_ (by kernel_rfl) ?_
                                try go_wp2
                                go_roundg kj13
                                case measure => have := HK1.out; have := HJ13.out; omega
                                case rel => exact ⟨(wrap64 (x6_1 + 1)), (by first | rfl | (simp; done) | (simp [*]; done)), H', ⟨by have := HK1.out; have := HJ13.out; omega⟩, ⟨by (with_reducible repeat (first | apply Kd.R_alloc | apply Kd.R_drewN | apply Kd.R_drew)); exact Kd.R_mono HO_4.out (fun _ hk => trivial)⟩, ⟨by repeat (first | (with_reducible first | exact HB.out | apply below_alloc | apply pw_below_drewN | apply below_drew1 | refine below_set ?_ GE455.out) | exact HB.out)⟩⟩
                            · rw [if_neg c28] at H
                              exact absurd H (by simp)
                          · rw [if_neg c27] at H
                            have c27b0 : (((rd_T58 y447 x6_1).f0) == 2) = false := beq_eq_false_iff_ne.mpr c27
                            have c27b1 : (((rd_T58 y447 x6_1).f0) != 2) = true := bne_iff_ne.mpr c27
                            by_cases c36 : x6_1 < (t451.length : Int)
                            · rw [if_pos c36] at H
                              have c36b0 : decide (x6_1 < (t451.length : Int)) = true := decide_eq_true c36
                              clear c36
                              by_cases c37 : (!(((rd_T62 t451 x6_1).f0) == x456000_13) || (!(((rd_T62 t451 x6_1).f1) == x456001_13) || (!(((rd_T62 t451 x6_1).f2) == x456002_13) || (!(((rd_T62 t451 x6_1).f3) == x456003_13))))) = true
                              · rw [if_pos c37] at H
                                have c37b0 : (!(((rd_T62 t451 x6_1).f0) == x456000_13) || (!(((rd_T62 t451 x6_1).f1) == x456001_13) || (!(((rd_T62 t451 x6_1).f2) == x456002_13) || (!(((rd_T62 t451 x6_1).f3) == x456003_13))))) = true := c37
                                clear c37
                                obtain rfl := Option.some.inj H
                                have p459 : 0 ≤ (x6_1 : Int) := of_decide_eq_true (by first | (with_reducible assumption) | assumption)
                                have q459 : x6_1 < (y447.length : Int) := of_decide_eq_true (by first | (with_reducible assumption) | assumption)
                                obtain ⟨ad459, e459, hx459_0, hx459_1⟩ := at_T58 HR450.out x6_1 p459 q459
                                obtain rfl : ad456 = ad459 := (by injection e459)
                                replace hx459_0 := (HB.out.cell (World.block_lt_of_cell? w _ hx459_0)).trans hx459_0
                                replace hx459_1 := (HB.out.cell (World.block_lt_of_cell? w _ hx459_1)).trans hx459_1
                                replace p459 := eq_true p459
                                replace q459 := eq_true q459
                                try go_wp2
                                have n0_ := Aside0.mk (Kd.R_drew HO_4.out)
                                have n1_ := Aside0.mk (blk_drew BK455.out)
                                have n2_ := Aside0.mk (below_drew1 HB.out)
                                clear HO_4
                                clear BK455
                                clear HB
                                have HO_4 := n0_
                                have BK455 := n1_
                                have HB := n2_
                                clear n0_ n1_ n2_
                                have p462 : 0 ≤ (x6_1 : Int) := of_decide_eq_true (by first | (with_reducible assumption) | assumption)
                                have q462 : x6_1 < (t451.length : Int) := of_decide_eq_true (by first | (with_reducible assumption) | assumption)
                                obtain ⟨ad462, e462, hx462_0, hx462_1, hx462_2, hx462_3⟩ := at_T62 (Kd.R_reads' HO_4.out).2.2 x6_1 p462 q462
                                cases e462
                                replace p462 := eq_true p462
                                replace q462 := eq_true q462
                                refine start_ (n := 6) (S := fun w' => w'.cell? ⟨gb455, 0, none⟩ = some (.int .i64 x456000_13) ∧ w'.cell? ⟨gb455, 1, none⟩ = some (.int .i64 x456001_13) ∧ w'.cell? ⟨gb455, 2, none⟩ = some (.int .i64 x456002_13) ∧ w'.cell? ⟨gb455, 3, none⟩ = some (.int .i64 x456003_13) ∧ w'.cell? (ad462.add ((x6_1).toNat * 4)) = some (.int .i64 ((rd_T62 t451 x6_1).f0)) ∧ w'.cell? ⟨(ad462.add ((x6_1).toNat * 4)).block, (ad462.add ((x6_1).toNat * 4)).off + 1, none⟩ = some (.int .i64 ((rd_T62 t451 x6_1).f1)) ∧ w'.cell? ⟨(ad462.add ((x6_1).toNat * 4)).block, (ad462.add ((x6_1).toNat * 4)).off + 2, none⟩ = some (.int .i64 ((rd_T62 t451 x6_1).f2)) ∧ w'.cell? ⟨(ad462.add ((x6_1).toNat * 4)).block, (ad462.add ((x6_1).toNat * 4)).off + 3, none⟩ = some (.int .i64 ((rd_T62 t451 x6_1).f3))) (ds := []) #[false, false, false, false, false, false] (by kernel_rfl) rfl rfl ⟨(blk_cell BK455.out 0).trans rfl, (blk_cell BK455.out 1).trans rfl, (blk_cell BK455.out 2).trans rfl, (blk_cell BK455.out 3).trans rfl, hx462_0, hx462_1, hx462_2, hx462_3⟩ (fun hHeld => ?_)
                                generalize wc.drew = w38 at HO_4 BK455 HB hx462_0 hx462_1 hx462_2 hx462_3 hHeld ⊢
                                refine pure_ (i := 0) (N := some 63) (v := ?_) (a' := ?_) #[true, false, false, false, false, false] rfl rfl (by kernel_rfl) (fun _ _ _ h => h) (Or.inl ⟨by rfl, ?_⟩) ?_ ?_
                                rotate_left
                                · intro w'
                                  go_simp
                                  with_reducible rfl
                                rotate_left
                                · simp only [Act.put, List.setIfInBounds_toArray, List.set_cons_zero, List.set_cons_succ, i64_w, i32_w]
                                  rfl
                                refine pure_ (i := 1) (N := some 64) (v := ?_) (a' := ?_) #[true, true, false, false, false, false] rfl rfl (by kernel_rfl) (fun _ _ _ h => h) (Or.inl ⟨by rfl, ?_⟩) ?_ ?_
                                rotate_left
                                · intro w'
                                  go_simp
                                  with_reducible rfl
                                rotate_left
                                · simp only [Act.put, List.setIfInBounds_toArray, List.set_cons_zero, List.set_cons_succ, i64_w, i32_w]
                                  rfl
                                refine pure_ (i := 2) (N := some 65) (v := ?_) (a' := ?_) #[true, true, true, false, false, false] rfl rfl (by kernel_rfl) (fun _ _ _ h => h) (Or.inl ⟨by rfl, ?_⟩) ?_ ?_
                                rotate_left
                                · intro w'
                                  go_simp
                                  with_reducible rfl
                                rotate_left
                                · simp only [Act.put, List.setIfInBounds_toArray, List.set_cons_zero, List.set_cons_succ, i64_w, i32_w]
                                  rfl
                                refine take_ (i := 3) (N := some 66) (v := ?_) (a' := ?_) #[true, true, true, true, false, false] rfl rfl (by kernel_rfl) (fun _ _ _ h => h) (Or.inl ⟨by rfl, ?_⟩) hHeld ?_ ?_
                                rotate_left
                                · rintro w' ⟨s0, s1, s2, s3, s4, s5, s6, s7⟩
                                  go_simp
                                  with_reducible rfl
                                rotate_left
                                · simp only [Act.put, List.setIfInBounds_toArray, List.set_cons_zero, List.set_cons_succ, i64_w, i32_w]
                                  rfl
                                refine take_ (i := 4) (N := some 67) (v := ?_) (a' := ?_) #[true, true, true, true, true, false] rfl rfl (by kernel_rfl) (fun _ _ _ h => h) (Or.inl ⟨by rfl, ?_⟩) hHeld ?_ ?_
                                rotate_left
                                · rintro w' ⟨s0, s1, s2, s3, s4, s5, s6, s7⟩
                                  go_simp
                                  with_reducible rfl
                                rotate_left
                                · simp only [Act.put, List.setIfInBounds_toArray, List.set_cons_zero, List.set_cons_succ, i64_w, i32_w]
                                  rfl
                                refine pure_ (i := 5) (N := some 68) (v := ?_) (a' := ?_) #[true, true, true, true, true, true] rfl rfl (by kernel_rfl) (fun _ _ _ h => h) (Or.inl ⟨by rfl, ?_⟩) ?_ ?_
                                rotate_left
                                · intro w'
                                  go_simp
                                  with_reducible rfl
                                rotate_left
                                · simp only [Act.put, List.setIfInBounds_toArray, List.set_cons_zero, List.set_cons_succ, i64_w, i32_w]
                                  rfl
                                refine done_ (by kernel_rfl) ?_
                                try go_wp2
                                go_ret
                                exact ⟨by first | rfl | (simp [errW_none, errW_some] <;> rfl) | (simp only [← hji3]; first | rfl | (simp [errW_none, errW_some] <;> rfl)) | (simp [*, errW_none, errW_some] <;> rfl), by repeat (first | (with_reducible first | exact HB.out | apply below_alloc | apply pw_below_drewN | apply below_drew1 | refine below_set ?_ GE455.out) | exact HB.out)⟩
                              · rw [if_neg c37] at H
                                have c37b0 : (!(((rd_T62 t451 x6_1).f0) == x456000_13) || (!(((rd_T62 t451 x6_1).f1) == x456001_13) || (!(((rd_T62 t451 x6_1).f2) == x456002_13) || (!(((rd_T62 t451 x6_1).f3) == x456003_13))))) = false := by simpa using c37
                                clear c37
                                have H' := Aside0.mk H
                                clear H
                                have p459 : 0 ≤ (x6_1 : Int) := of_decide_eq_true (by first | (with_reducible assumption) | assumption)
                                have q459 : x6_1 < (y447.length : Int) := of_decide_eq_true (by first | (with_reducible assumption) | assumption)
                                obtain ⟨ad459, e459, hx459_0, hx459_1⟩ := at_T58 HR450.out x6_1 p459 q459
                                obtain rfl : ad456 = ad459 := (by injection e459)
                                replace hx459_0 := (HB.out.cell (World.block_lt_of_cell? w _ hx459_0)).trans hx459_0
                                replace hx459_1 := (HB.out.cell (World.block_lt_of_cell? w _ hx459_1)).trans hx459_1
                                replace p459 := eq_true p459
                                replace q459 := eq_true q459
                                try go_wp2
                                have n0_ := Aside0.mk (Kd.R_drew HO_4.out)
                                have n1_ := Aside0.mk (blk_drew BK455.out)
                                have n2_ := Aside0.mk (below_drew1 HB.out)
                                clear HO_4
                                clear BK455
                                clear HB
                                have HO_4 := n0_
                                have BK455 := n1_
                                have HB := n2_
                                clear n0_ n1_ n2_
                                have p462 : 0 ≤ (x6_1 : Int) := of_decide_eq_true (by first | (with_reducible assumption) | assumption)
                                have q462 : x6_1 < (t451.length : Int) := of_decide_eq_true (by first | (with_reducible assumption) | assumption)
                                obtain ⟨ad462, e462, hx462_0, hx462_1, hx462_2, hx462_3⟩ := at_T62 (Kd.R_reads' HO_4.out).2.2 x6_1 p462 q462
                                cases e462
                                replace p462 := eq_true p462
                                replace q462 := eq_true q462
                                refine start_ (n := 6) (S := fun w' => w'.cell? ⟨gb455, 0, none⟩ = some (.int .i64 x456000_13) ∧ w'.cell? ⟨gb455, 1, none⟩ = some (.int .i64 x456001_13) ∧ w'.cell? ⟨gb455, 2, none⟩ = some (.int .i64 x456002_13) ∧ w'.cell? ⟨gb455, 3, none⟩ = some (.int .i64 x456003_13) ∧ w'.cell? (ad462.add ((x6_1).toNat * 4)) = some (.int .i64 ((rd_T62 t451 x6_1).f0)) ∧ w'.cell? ⟨(ad462.add ((x6_1).toNat * 4)).block, (ad462.add ((x6_1).toNat * 4)).off + 1, none⟩ = some (.int .i64 ((rd_T62 t451 x6_1).f1)) ∧ w'.cell? ⟨(ad462.add ((x6_1).toNat * 4)).block, (ad462.add ((x6_1).toNat * 4)).off + 2, none⟩ = some (.int .i64 ((rd_T62 t451 x6_1).f2)) ∧ w'.cell? ⟨(ad462.add ((x6_1).toNat * 4)).block, (ad462.add ((x6_1).toNat * 4)).off + 3, none⟩ = some (.int .i64 ((rd_T62 t451 x6_1).f3))) (ds := []) #[false, false, false, false, false, false] (by kernel_rfl) rfl rfl ⟨(blk_cell BK455.out 0).trans rfl, (blk_cell BK455.out 1).trans rfl, (blk_cell BK455.out 2).trans rfl, (blk_cell BK455.out 3).trans rfl, hx462_0, hx462_1, hx462_2, hx462_3⟩ (fun hHeld => ?_)
                                generalize wc.drew = w39 at HO_4 BK455 HB hx462_0 hx462_1 hx462_2 hx462_3 hHeld ⊢
                                refine pure_ (i := 0) (N := some 63) (v := ?_) (a' := ?_) #[true, false, false, false, false, false] rfl rfl (by kernel_rfl) (fun _ _ _ h => h) (Or.inl ⟨by rfl, ?_⟩) ?_ ?_
                                rotate_left
                                · intro w'
                                  go_simp
                                  with_reducible rfl
                                rotate_left
                                · simp only [Act.put, List.setIfInBounds_toArray, List.set_cons_zero, List.set_cons_succ, i64_w, i32_w]
                                  rfl
                                refine pure_ (i := 1) (N := some 64) (v := ?_) (a' := ?_) #[true, true, false, false, false, false] rfl rfl (by kernel_rfl) (fun _ _ _ h => h) (Or.inl ⟨by rfl, ?_⟩) ?_ ?_
                                rotate_left
                                · intro w'
                                  go_simp
                                  with_reducible rfl
                                rotate_left
                                · simp only [Act.put, List.setIfInBounds_toArray, List.set_cons_zero, List.set_cons_succ, i64_w, i32_w]
                                  rfl
                                refine pure_ (i := 2) (N := some 65) (v := ?_) (a' := ?_) #[true, true, true, false, false, false] rfl rfl (by kernel_rfl) (fun _ _ _ h => h) (Or.inl ⟨by rfl, ?_⟩) ?_ ?_
                                rotate_left
                                · intro w'
                                  go_simp
                                  with_reducible rfl
                                rotate_left
                                · simp only [Act.put, List.setIfInBounds_toArray, List.set_cons_zero, List.set_cons_succ, i64_w, i32_w]
                                  rfl
                                refine take_ (i := 3) (N := some 66) (v := ?_) (a' := ?_) #[true, true, true, true, false, false] rfl rfl (by kernel_rfl) (fun _ _ _ h => h) (Or.inl ⟨by rfl, ?_⟩) hHeld ?_ ?_
                                rotate_left
                                · rintro w' ⟨s0, s1, s2, s3, s4, s5, s6, s7⟩
                                  go_simp
                                  with_reducible rfl
                                rotate_left
                                · simp only [Act.put, List.setIfInBounds_toArray, List.set_cons_zero, List.set_cons_succ, i64_w, i32_w]
                                  rfl
                                refine take_ (i := 4) (N := some 67) (v := ?_) (a' := ?_) #[true, true, true, true, true, false] rfl rfl (by kernel_rfl) (fun _ _ _ h => h) (Or.inl ⟨by rfl, ?_⟩) hHeld ?_ ?_
                                rotate_left
                                · rintro w' ⟨s0, s1, s2, s3, s4, s5, s6, s7⟩
                                  go_simp
                                  with_reducible rfl
                                rotate_left
                                · simp only [Act.put, List.setIfInBounds_toArray, List.set_cons_zero, List.set_cons_succ, i64_w, i32_w]
                                  rfl
                                refine pure_ (i := 5) (N := some 68) (v := ?_) (a' := ?_) #[true, true, true, true, true, true] rfl rfl (by kernel_rfl) (fun _ _ _ h => h) (Or.inl ⟨by rfl, ?_⟩) ?_ ?_
                                rotate_left
                                · intro w'
                                  go_simp
                                  with_reducible rfl
                                rotate_left
                                · simp only [Act.put, List.setIfInBounds_toArray, List.set_cons_zero, List.set_cons_succ, i64_w, i32_w]
                                  rfl
                                refine done_ (by kernel_rfl) ?_
                                try go_wp2
                                go_roundg kj13
                                case measure => have := HK1.out; have := HJ13.out; omega
                                case rel => exact ⟨(wrap64 (x6_1 + 1)), (by first | rfl | (simp; done) | (simp [*]; done)), H', ⟨by have := HK1.out; have := HJ13.out; omega⟩, ⟨by (with_reducible repeat (first | apply Kd.R_alloc | apply Kd.R_drewN | apply Kd.R_drew)); exact Kd.R_mono HO_4.out (fun _ hk => trivial)⟩, ⟨by repeat (first | (with_reducible first | exact HB.out | apply below_alloc | apply pw_below_drewN | apply below_drew1 | refine below_set ?_ GE455.out) | exact HB.out)⟩⟩
                            · rw [if_neg c36] at H
                              exact absurd H (by simp)
                        · rw [if_neg c26] at H
                          exact absurd H (by simp)
                      · rw [if_neg c25] at H
                        exact absurd H (by simp)
                · rw [if_neg c13] at H
                  exact absurd H (by simp)
              · rw [if_neg c12] at H
                exact absurd H (by simp)
            · rw [if_neg c11] at H
              have c11b0 : decide (x6_1 < (t451.length : Int)) = false := decide_eq_false c11
              clear c11
              by_cases c40 : t446 = true
              · subst c40
                have H1 : (some ((t451.length : Int) == (y447.length : Int))) = some r := by rw [if_pos rfl] at H; exact H
                clear H
                have H := H1
                clear H1
                obtain rfl := Option.some.inj H
                obtain ⟨Ao41, co41, eo41⟩ := Kd.R_slice HO_4.out
                subst eo41
                go_wp2
                go_ret
                exact ⟨by first | rfl | (simp [errW_none, errW_some] <;> rfl) | (simp only [← hji3]; first | rfl | (simp [errW_none, errW_some] <;> rfl)) | (simp [*, errW_none, errW_some] <;> rfl), by repeat (first | (with_reducible first | exact HB.out | apply below_alloc | apply pw_below_drewN | apply below_drew1) | exact HB.out)⟩
              · replace c40 := Bool.eq_false_iff.mpr c40
                subst c40
                have H1 : (some false) = some r := by rw [if_neg (show ¬ (false = true) by decide)] at H; exact H
                clear H
                have H := H1
                clear H1
                obtain rfl := Option.some.inj H
                obtain ⟨Ao42, co42, eo42⟩ := Kd.R_slice HO_4.out
                subst eo42
                go_wp2
                go_ret
                exact ⟨by first | rfl | (simp [errW_none, errW_some] <;> rfl) | (simp only [← hji3]; first | rfl | (simp [errW_none, errW_some] <;> rfl)) | (simp [*, errW_none, errW_some] <;> rfl), by repeat (first | (with_reducible first | exact HB.out | apply below_alloc | apply pw_below_drewN | apply below_drew1) | exact HB.out)⟩
      · rw [if_neg c7] at H
        have c7b0 : (t452 == 0) = false := beq_eq_false_iff_ne.mpr c7
        have c7b1 : (t452 != 0) = true := bne_iff_ne.mpr c7
        by_cases c43 : t446 = true
        · subst c43
          have H1 : (some ((t451.length : Int) == 0)) = some r := by rw [if_pos rfl] at H; exact H
          clear H
          have H := H1
          clear H1
          obtain rfl := Option.some.inj H
          go_enter Try.func12, Try.ntmps12
          go_wp2_with (first | ((with_reducible refine gate_callee (f := 26) rfl ?_); refine goesL_ (some 8) rfl rfl Try.func26 (by kernel_rfl) rfl #[] rfl (by (try simp only [List.map_toArray, List.map_cons, List.map_nil]); first | done | rfl | (simp only [List.length_drop, List.length_take]; rfl)) ?_; (with_reducible refine (purflinglaw13_shown.calls  true _ A2.out).mono ?_); rintro e w44 ⟨rfl, hb⟩; refine ⟨_, rfl, ?_⟩; have n0_ := Aside0.mk (below_step (by repeat (first | (with_reducible first | exact HB.out | apply below_alloc | apply pw_below_drewN | apply below_drew1) | exact HB.out)) hb); clear HB; have HB := n0_; clear n0_; (try clear hb); (try clear hb2); (try clear hk); (try clear hi); have q45 : ((ji3) : Int) ≤ ((l0.length : Int) : Int) := of_decide_eq_true (by first | (with_reducible assumption) | assumption); obtain ⟨i045, hi045, _, hsz45, _⟩ := info_parts info58; have hroom45 : l0.length ≤ c0 := HC0.out; have hC45 : Kd.C k58 _ A0 l0.length l0 := HR0.out; have hcut45 := cut_to (P := Try.prog) 47 58 .i64 Try.underlying47 hi045 A0 l0.length c0 (ji3) (of_decide_eq_true (by first | (with_reducible assumption) | assumption)) q45 hroom45; have hr45 := Kd.C_take (m := ((ji3) : Int).toNat) hC45 (by omega); have hy45 : y447.length = ((ji3) : Int).toNat := (by rw [Ny447.out, List.length_take]; omega); rw [← Ny447.out] at hr45; rw [← hy45] at hcut45; have HR450 := Aside0.mk hr45; have HC450 := Aside0.mk (show y447.length ≤ c0 from by omega); clear hr45 hC45 hroom45 hi045 hsz45; have KY45 := Aside0.mk hy45; clear hy45; replace q45 := eq_true q45) | ((with_reducible refine gate_callee (f := 28) rfl ?_); refine goesL_ (some 16) rfl rfl Try.func28 (by kernel_rfl) rfl #[.slice A0 y447.length c0, .slice none 0 0] rfl (by (try simp only [List.map_toArray, List.map_cons, List.map_nil]); first | done | rfl | (simp only [List.length_drop, List.length_take]; rfl)) ?_; (refine (columns_Bands.calls _ _ y447 _ _ ([] : List (S60)) t451 t452 _ ?side1 ?side2 ?side3 ?side4 A6.out).mono ?_); (case side1 => repeat (first | exact (Kd.C_below HR450.out HB.out) | (with_reducible refine Kd.C_alloc ?_ _) | (with_reducible refine Kd.C_drewN ?_ _) | (with_reducible refine Kd.C_drew ?_))); (case side2 => exact HC450.out); (case side3 => exact Kd.C_nil _ _); (case side4 => exact Nat.le_refl _); rintro e w46 ⟨v453, rfl, ho0, hb⟩; refine ⟨_, rfl, ?_⟩; have n0_ := Aside0.mk (Kd.R_lower ho0 (below_size (by repeat (first | (with_reducible first | exact HB.out | apply below_alloc | apply pw_below_drewN | apply below_drew1) | exact HB.out)))); have n1_ := Aside0.mk (below_step (by repeat (first | (with_reducible first | exact HB.out | apply below_alloc | apply pw_below_drewN | apply below_drew1) | exact HB.out)) hb); clear HB; have HO454 := n0_; have HB := n1_; clear n0_ n1_; (try clear hb); (try clear hb2); (try clear hk); (try clear hi); (try clear ho0); obtain ⟨Ao47, co47, eo47⟩ := Kd.R_slice HO454.out; subst eo47))
          go_ret
          exact ⟨by first | rfl | (simp [errW_none, errW_some] <;> rfl) | (simp only [← hji3]; first | rfl | (simp [errW_none, errW_some] <;> rfl)) | (simp [*, errW_none, errW_some] <;> rfl), by repeat (first | (with_reducible first | exact HB.out | apply below_alloc | apply pw_below_drewN | apply below_drew1) | exact HB.out)⟩
        · replace c43 := Bool.eq_false_iff.mpr c43
          subst c43
          have H1 : (some false) = some r := by rw [if_neg (show ¬ (false = true) by decide)] at H; exact H
          clear H
          have H := H1
          clear H1
          obtain rfl := Option.some.inj H
          go_enter Try.func12, Try.ntmps12
          go_wp2_with (first | ((with_reducible refine gate_callee (f := 26) rfl ?_); refine goesL_ (some 8) rfl rfl Try.func26 (by kernel_rfl) rfl #[] rfl (by (try simp only [List.map_toArray, List.map_cons, List.map_nil]); first | done | rfl | (simp only [List.length_drop, List.length_take]; rfl)) ?_; (with_reducible refine (purflinglaw13_shown.calls  false _ A2.out).mono ?_); rintro e w48 ⟨rfl, hb⟩; refine ⟨_, rfl, ?_⟩; have n0_ := Aside0.mk (below_step (by repeat (first | (with_reducible first | exact HB.out | apply below_alloc | apply pw_below_drewN | apply below_drew1) | exact HB.out)) hb); clear HB; have HB := n0_; clear n0_; (try clear hb); (try clear hb2); (try clear hk); (try clear hi); have q49 : ((ji3) : Int) ≤ ((l0.length : Int) : Int) := of_decide_eq_true (by first | (with_reducible assumption) | assumption); obtain ⟨i049, hi049, _, hsz49, _⟩ := info_parts info58; have hroom49 : l0.length ≤ c0 := HC0.out; have hC49 : Kd.C k58 _ A0 l0.length l0 := HR0.out; have hcut49 := cut_to (P := Try.prog) 47 58 .i64 Try.underlying47 hi049 A0 l0.length c0 (ji3) (of_decide_eq_true (by first | (with_reducible assumption) | assumption)) q49 hroom49; have hr49 := Kd.C_take (m := ((ji3) : Int).toNat) hC49 (by omega); have hy49 : y447.length = ((ji3) : Int).toNat := (by rw [Ny447.out, List.length_take]; omega); rw [← Ny447.out] at hr49; rw [← hy49] at hcut49; have HR450 := Aside0.mk hr49; have HC450 := Aside0.mk (show y447.length ≤ c0 from by omega); clear hr49 hC49 hroom49 hi049 hsz49; have KY49 := Aside0.mk hy49; clear hy49; replace q49 := eq_true q49) | ((with_reducible refine gate_callee (f := 28) rfl ?_); refine goesL_ (some 16) rfl rfl Try.func28 (by kernel_rfl) rfl #[.slice A0 y447.length c0, .slice none 0 0] rfl (by (try simp only [List.map_toArray, List.map_cons, List.map_nil]); first | done | rfl | (simp only [List.length_drop, List.length_take]; rfl)) ?_; (refine (columns_Bands.calls _ _ y447 _ _ ([] : List (S60)) t451 t452 _ ?side1 ?side2 ?side3 ?side4 A6.out).mono ?_); (case side1 => repeat (first | exact (Kd.C_below HR450.out HB.out) | (with_reducible refine Kd.C_alloc ?_ _) | (with_reducible refine Kd.C_drewN ?_ _) | (with_reducible refine Kd.C_drew ?_))); (case side2 => exact HC450.out); (case side3 => exact Kd.C_nil _ _); (case side4 => exact Nat.le_refl _); rintro e w50 ⟨v453, rfl, ho0, hb⟩; refine ⟨_, rfl, ?_⟩; have n0_ := Aside0.mk (Kd.R_lower ho0 (below_size (by repeat (first | (with_reducible first | exact HB.out | apply below_alloc | apply pw_below_drewN | apply below_drew1) | exact HB.out)))); have n1_ := Aside0.mk (below_step (by repeat (first | (with_reducible first | exact HB.out | apply below_alloc | apply pw_below_drewN | apply below_drew1) | exact HB.out)) hb); clear HB; have HO454 := n0_; have HB := n1_; clear n0_ n1_; (try clear hb); (try clear hb2); (try clear hk); (try clear hi); (try clear ho0)))
          go_ret
          exact ⟨by first | rfl | (simp [errW_none, errW_some] <;> rfl) | (simp only [← hji3]; first | rfl | (simp [errW_none, errW_some] <;> rfl)) | (simp [*, errW_none, errW_some] <;> rfl), by repeat (first | (with_reducible first | exact HB.out | apply below_alloc | apply pw_below_drewN | apply below_drew1) | exact HB.out)⟩
    · rw [if_neg c5] at H
      exact absurd H (by simp)
  · rw [if_neg c4] at H
    exact absurd H (by simp)

end Go.Proofs.Ytfoocmmjefdojaa.K
