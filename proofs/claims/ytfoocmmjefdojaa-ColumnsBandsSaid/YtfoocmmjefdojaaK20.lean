-- PRINTED by print.py (a twelfth state) out of the translation. Not trusted: Lean checks it.
import Derived.Test.YtfoocmmjefdojaaK0
namespace Go.Proofs.Ytfoocmmjefdojaa.K
open Go.RowKit Go.Proofs.YtfoocmmjefdojaaW.PrintWords Go.Proofs.YtfoocmmjefdojaaW.PrintLast Go.Proofs.YtfoocmmjefdojaaW.PrintMore
attribute [local go_sem] max2_int min2_int max_two min_two max_three min_three max_four min_four   -- for this text's walks alone
set_option linter.unusedVariables false
set_option linter.unusedSimpArgs false

/-! ### purflingref13_Bands: function 32 -/
mutual
def purflingref13_Bands.l0 : Nat → List (S58) → List (S60) → List (S62) → Int → Option ((List (S62)))
  | 0, _, _, _, _ => none
  | k + 1, x0, x1, x5, x6 => if x6 < (x0.length : Int) then (if 0 ≤ x6 then (if ((rd_T58 x0 x6).f0) = 1 then (purflingref13_Bands.j1 k x0 x1 x5 x6 0 0 (-1) ((rd_T58 x0 x6).f1)) else (purflingref13_Bands.j1 k x0 x1 x5 x6 0 0 (-1) (-1))) else (none)) else (some x5)
def purflingref13_Bands.j1 : Nat → List (S58) → List (S60) → List (S62) → Int → Int → Int → Int → Int → Option ((List (S62)))
  | 0, _, _, _, _, _, _, _, _ => none
  | k + 1, x0, x1, x5, x6, x365000, x365001, x365002, x365003 => if 0 ≤ x6 then (if x6 < (x0.length : Int) then (if ((rd_T58 x0 x6).f0) = 2 then (purflingref13_Bands.j2 k x0 x1 x5 x6 x365000 x365001 ((rd_T58 x0 x6).f1) x365003) else (purflingref13_Bands.j2 k x0 x1 x5 x6 x365000 x365001 x365002 x365003)) else (none)) else (none)
def purflingref13_Bands.j2 : Nat → List (S58) → List (S60) → List (S62) → Int → Int → Int → Int → Int → Option ((List (S62)))
  | 0, _, _, _, _, _, _, _, _ => none
  | k + 1, x0, x1, x5, x6, x365000, x365001, x365002, x365003 => purflingref13_Bands.l1 k x0 x1 x5 x6 0 x365000 x365001 x365002 x365003
def purflingref13_Bands.l1 : Nat → List (S58) → List (S60) → List (S62) → Int → Int → Int → Int → Int → Int → Option ((List (S62)))
  | 0, _, _, _, _, _, _, _, _, _ => none
  | k + 1, x0, x1, x5, x6, x8, x365000, x365001, x365002, x365003 => if x8 < (x1.length : Int) then (if 0 ≤ x8 then (if ((rd_T60 x1 x8).f0.f2) = x6 then (purflingref13_Bands.j4 k x0 x1 x5 x6 x8 (((rd_T60 x1 x8).f0.f4) != 1) x365000 x365001 x365002 x365003 ((rd_T60 x1 x8).f0.f0) ((rd_T60 x1 x8).f0.f1) ((rd_T60 x1 x8).f0.f2) ((rd_T60 x1 x8).f0.f3) ((rd_T60 x1 x8).f0.f4) ((rd_T60 x1 x8).f1) ((rd_T60 x1 x8).f2) ((rd_T60 x1 x8).f3.f0) ((rd_T60 x1 x8).f3.f1)) else (purflingref13_Bands.j4 k x0 x1 x5 x6 x8 true x365000 x365001 x365002 x365003 ((rd_T60 x1 x8).f0.f0) ((rd_T60 x1 x8).f0.f1) ((rd_T60 x1 x8).f0.f2) ((rd_T60 x1 x8).f0.f3) ((rd_T60 x1 x8).f0.f4) ((rd_T60 x1 x8).f1) ((rd_T60 x1 x8).f2) ((rd_T60 x1 x8).f3.f0) ((rd_T60 x1 x8).f3.f1))) else (none)) else (if x365002 ≥ 0 then (if x5.length < 4398046511104 then (purflingref13_Bands.l0 k x0 x1 (x5 ++ [(⟨x365000, x365001, x365002, (-1)⟩ : S62)]) (wrap64 (x6 + 1))) else (none)) else (if x365003 ≥ 0 then (if x5.length < 4398046511104 then (purflingref13_Bands.l0 k x0 x1 (x5 ++ [(⟨x365000, mx x365003 x365000, x365002, x365003⟩ : S62)]) (wrap64 (x6 + 1))) else (none)) else (if x5.length < 4398046511104 then (purflingref13_Bands.l0 k x0 x1 (x5 ++ [(⟨x365000, x365001, x365002, x365003⟩ : S62)]) (wrap64 (x6 + 1))) else (none))))
def purflingref13_Bands.j4 : Nat → List (S58) → List (S60) → List (S62) → Int → Int → Bool → Int → Int → Int → Int → Int → Int → Int → Int → Int → Int → Int → Int → Int → Option ((List (S62)))
  | 0, _, _, _, _, _, _, _, _, _, _, _, _, _, _, _, _, _, _, _ => none
  | k + 1, x0, x1, x5, x6, x8, x61, x365000, x365001, x365002, x365003, x371000, x371001, x371002, x371003, x371004, x371005, x371006, x371007, x371008 => if x61 = true then (purflingref13_Bands.l1 k x0 x1 x5 x6 (wrap64 (x8 + 1)) x365000 x365001 x365002 x365003) else (if x371007 = 1 then (if x371007 = 2 then (purflingref13_Bands.l1 k x0 x1 x5 x6 (wrap64 (x8 + 1)) (mx x365000 x371005) (mx x365001 x371006) (mx x365002 x371008) (mx x365003 x371008)) else (purflingref13_Bands.l1 k x0 x1 x5 x6 (wrap64 (x8 + 1)) (mx x365000 x371005) (mx x365001 x371006) x365002 (mx x365003 x371008))) else (if x371007 = 2 then (purflingref13_Bands.l1 k x0 x1 x5 x6 (wrap64 (x8 + 1)) (mx x365000 x371005) (mx x365001 x371006) (mx x365002 x371008) x365003) else (purflingref13_Bands.l1 k x0 x1 x5 x6 (wrap64 (x8 + 1)) (mx x365000 x371005) (mx x365001 x371006) x365002 x365003)))
end
def purflingref13_Bands.f (k : Nat) (l0 : List (S58)) (l1 : List (S60)) : Option ((List (S62))) := purflingref13_Bands.l0 k l0 l1 ([] : List (S62)) 0
theorem purflingref13_Bands.mono_l : ∀ k, (∀ y0 y1 y2 y3, LeO (purflingref13_Bands.l0 k y0 y1 y2 y3) (purflingref13_Bands.l0 (k + 1) y0 y1 y2 y3)) ∧ (∀ y0 y1 y2 y3 y4 y5 y6 y7, LeO (purflingref13_Bands.j1 k y0 y1 y2 y3 y4 y5 y6 y7) (purflingref13_Bands.j1 (k + 1) y0 y1 y2 y3 y4 y5 y6 y7)) ∧ (∀ y0 y1 y2 y3 y4 y5 y6 y7, LeO (purflingref13_Bands.j2 k y0 y1 y2 y3 y4 y5 y6 y7) (purflingref13_Bands.j2 (k + 1) y0 y1 y2 y3 y4 y5 y6 y7)) ∧ (∀ y0 y1 y2 y3 y4 y5 y6 y7 y8, LeO (purflingref13_Bands.l1 k y0 y1 y2 y3 y4 y5 y6 y7 y8) (purflingref13_Bands.l1 (k + 1) y0 y1 y2 y3 y4 y5 y6 y7 y8)) ∧ (∀ y0 y1 y2 y3 y4 y5 y6 y7 y8 y9 y10 y11 y12 y13 y14 y15 y16 y17 y18, LeO (purflingref13_Bands.j4 k y0 y1 y2 y3 y4 y5 y6 y7 y8 y9 y10 y11 y12 y13 y14 y15 y16 y17 y18) (purflingref13_Bands.j4 (k + 1) y0 y1 y2 y3 y4 y5 y6 y7 y8 y9 y10 y11 y12 y13 y14 y15 y16 y17 y18))
  | 0 => ⟨fun _ _ _ _ r h => by simp [purflingref13_Bands.l0] at h, fun _ _ _ _ _ _ _ _ r h => by simp [purflingref13_Bands.j1] at h, fun _ _ _ _ _ _ _ _ r h => by simp [purflingref13_Bands.j2] at h, fun _ _ _ _ _ _ _ _ _ r h => by simp [purflingref13_Bands.l1] at h, fun _ _ _ _ _ _ _ _ _ _ _ _ _ _ _ _ _ _ _ r h => by simp [purflingref13_Bands.j4] at h⟩
  | k + 1 => by
    obtain ⟨ih0, ih1, ih2, ih3, ih4⟩ := purflingref13_Bands.mono_l k
    refine ⟨?_, ?_, ?_, ?_, ?_⟩
    · intro y0 y1 y2 y3
      unfold purflingref13_Bands.l0
      repeat' first
      | (with_reducible exact ih0 _ _ _ _)
      | (with_reducible exact ih1 _ _ _ _ _ _ _ _)
      | (with_reducible exact ih2 _ _ _ _ _ _ _ _)
      | (with_reducible exact ih3 _ _ _ _ _ _ _ _ _)
      | (with_reducible exact ih4 _ _ _ _ _ _ _ _ _ _ _ _ _ _ _ _ _ _ _)
      | (with_reducible exact LeO.refl _)
      | (with_reducible exact LeO.none _)
      | (with_reducible refine LeO.ite ?_ ?_)
      | (with_reducible refine LeO.bind ?_ (fun _ => ?_))
      | exact ih0 _ _ _ _
      | exact ih1 _ _ _ _ _ _ _ _
      | exact ih2 _ _ _ _ _ _ _ _
      | exact ih3 _ _ _ _ _ _ _ _ _
      | exact ih4 _ _ _ _ _ _ _ _ _ _ _ _ _ _ _ _ _ _ _
      | exact LeO.none _
      | refine LeO.ite ?_ ?_
      | refine LeO.bind ?_ (fun _ => ?_)
    · intro y0 y1 y2 y3 y4 y5 y6 y7
      unfold purflingref13_Bands.j1
      repeat' first
      | (with_reducible exact ih0 _ _ _ _)
      | (with_reducible exact ih1 _ _ _ _ _ _ _ _)
      | (with_reducible exact ih2 _ _ _ _ _ _ _ _)
      | (with_reducible exact ih3 _ _ _ _ _ _ _ _ _)
      | (with_reducible exact ih4 _ _ _ _ _ _ _ _ _ _ _ _ _ _ _ _ _ _ _)
      | (with_reducible exact LeO.refl _)
      | (with_reducible exact LeO.none _)
      | (with_reducible refine LeO.ite ?_ ?_)
      | (with_reducible refine LeO.bind ?_ (fun _ => ?_))
      | exact ih0 _ _ _ _
      | exact ih1 _ _ _ _ _ _ _ _
      | exact ih2 _ _ _ _ _ _ _ _
      | exact ih3 _ _ _ _ _ _ _ _ _
      | exact ih4 _ _ _ _ _ _ _ _ _ _ _ _ _ _ _ _ _ _ _
      | exact LeO.none _
      | refine LeO.ite ?_ ?_
      | refine LeO.bind ?_ (fun _ => ?_)
    · intro y0 y1 y2 y3 y4 y5 y6 y7
      unfold purflingref13_Bands.j2
      repeat' first
      | (with_reducible exact ih0 _ _ _ _)
      | (with_reducible exact ih1 _ _ _ _ _ _ _ _)
      | (with_reducible exact ih2 _ _ _ _ _ _ _ _)
      | (with_reducible exact ih3 _ _ _ _ _ _ _ _ _)
      | (with_reducible exact ih4 _ _ _ _ _ _ _ _ _ _ _ _ _ _ _ _ _ _ _)
      | (with_reducible exact LeO.refl _)
      | (with_reducible exact LeO.none _)
      | (with_reducible refine LeO.ite ?_ ?_)
      | (with_reducible refine LeO.bind ?_ (fun _ => ?_))
      | exact ih0 _ _ _ _
      | exact ih1 _ _ _ _ _ _ _ _
      | exact ih2 _ _ _ _ _ _ _ _
      | exact ih3 _ _ _ _ _ _ _ _ _
      | exact ih4 _ _ _ _ _ _ _ _ _ _ _ _ _ _ _ _ _ _ _
      | exact LeO.none _
      | refine LeO.ite ?_ ?_
      | refine LeO.bind ?_ (fun _ => ?_)
    · intro y0 y1 y2 y3 y4 y5 y6 y7 y8
      unfold purflingref13_Bands.l1
      repeat' first
      | (with_reducible exact ih0 _ _ _ _)
      | (with_reducible exact ih1 _ _ _ _ _ _ _ _)
      | (with_reducible exact ih2 _ _ _ _ _ _ _ _)
      | (with_reducible exact ih3 _ _ _ _ _ _ _ _ _)
      | (with_reducible exact ih4 _ _ _ _ _ _ _ _ _ _ _ _ _ _ _ _ _ _ _)
      | (with_reducible exact LeO.refl _)
      | (with_reducible exact LeO.none _)
      | (with_reducible refine LeO.ite ?_ ?_)
      | (with_reducible refine LeO.bind ?_ (fun _ => ?_))
      | exact ih0 _ _ _ _
      | exact ih1 _ _ _ _ _ _ _ _
      | exact ih2 _ _ _ _ _ _ _ _
      | exact ih3 _ _ _ _ _ _ _ _ _
      | exact ih4 _ _ _ _ _ _ _ _ _ _ _ _ _ _ _ _ _ _ _
      | exact LeO.none _
      | refine LeO.ite ?_ ?_
      | refine LeO.bind ?_ (fun _ => ?_)
    · intro y0 y1 y2 y3 y4 y5 y6 y7 y8 y9 y10 y11 y12 y13 y14 y15 y16 y17 y18
      unfold purflingref13_Bands.j4
      repeat' first
      | (with_reducible exact ih0 _ _ _ _)
      | (with_reducible exact ih1 _ _ _ _ _ _ _ _)
      | (with_reducible exact ih2 _ _ _ _ _ _ _ _)
      | (with_reducible exact ih3 _ _ _ _ _ _ _ _ _)
      | (with_reducible exact ih4 _ _ _ _ _ _ _ _ _ _ _ _ _ _ _ _ _ _ _)
      | (with_reducible exact LeO.refl _)
      | (with_reducible exact LeO.none _)
      | (with_reducible refine LeO.ite ?_ ?_)
      | (with_reducible refine LeO.bind ?_ (fun _ => ?_))
      | exact ih0 _ _ _ _
      | exact ih1 _ _ _ _ _ _ _ _
      | exact ih2 _ _ _ _ _ _ _ _
      | exact ih3 _ _ _ _ _ _ _ _ _
      | exact ih4 _ _ _ _ _ _ _ _ _ _ _ _ _ _ _ _ _ _ _
      | exact LeO.none _
      | refine LeO.ite ?_ ?_
      | refine LeO.bind ?_ (fun _ => ?_)
theorem purflingref13_Bands.mono : ∀ a0 a1 k, LeO (purflingref13_Bands.f k a0 a1) (purflingref13_Bands.f (k + 1) a0 a1) := by
  intro a0 a1 k
  obtain ⟨ih0, ih1, ih2, ih3, ih4⟩ := purflingref13_Bands.mono_l k
  unfold purflingref13_Bands.f
  repeat' first
      | (with_reducible exact ih0 _ _ _ _)
      | (with_reducible exact ih1 _ _ _ _ _ _ _ _)
      | (with_reducible exact ih2 _ _ _ _ _ _ _ _)
      | (with_reducible exact ih3 _ _ _ _ _ _ _ _ _)
      | (with_reducible exact ih4 _ _ _ _ _ _ _ _ _ _ _ _ _ _ _ _ _ _ _)
      | (with_reducible exact LeO.refl _)
      | (with_reducible exact LeO.none _)
      | (with_reducible refine LeO.ite ?_ ?_)
      | (with_reducible refine LeO.bind ?_ (fun _ => ?_))
      | exact ih0 _ _ _ _
      | exact ih1 _ _ _ _ _ _ _ _
      | exact ih2 _ _ _ _ _ _ _ _
      | exact ih3 _ _ _ _ _ _ _ _ _
      | exact ih4 _ _ _ _ _ _ _ _ _ _ _ _ _ _ _ _ _ _ _
      | exact LeO.none _
      | refine LeO.ite ?_ ?_
      | refine LeO.bind ?_ (fun _ => ?_)
set_option maxHeartbeats 8000000 in
set_option maxRecDepth 100000 in
theorem purflingref13_Bands.calls (k : Nat) (A0 : Option Addr) (c0 : Nat) (l0 : List (S58)) (A1 : Option Addr) (c1 : Nat) (l1 : List (S60)) (r : List (S62)) (w : World) (hr0 : Kd.C k58 w A0 l0.length l0) (hc0 : l0.length ≤ c0) (hr1 : Kd.C k60 w A1 l1.length l1) (hc1 : l1.length ≤ c1) (h : purflingref13_Bands.f k l0 l1 = some r) :
    Calls Try.prog 32 #[.slice A0 l0.length c0, .slice A1 l1.length c1] w fun e w' => ∃ v0_ : Value, e = .returned (v0_) ∧ Kd.R k62 62 w' w.heap.size (fun _ => True) v0_ r ∧ Below w.heap.size w w' := by
  have hu62 := Try.underlying62
  have hu60 := Try.underlying60
  have HR0 := Aside0.mk hr0
  have HC0 := Aside0.mk hc0
  clear hr0 hc0
  have HR1 := Aside0.mk hr1
  have HC1 := Aside0.mk hc1
  clear hr1 hc1
  have HB := Aside0.mk (Below.refl w.heap.size w)
  have H : (purflingref13_Bands.l0 k l0 l1 ([] : List (S62)) 0) = some r := h
  clear h
  have H' := Aside0.mk H
  clear H
  go_enter Try.func32, Try.ntmps32
  go_wp2
  go_loopg [5, 6] k (fun kq v5 v6 w' => ∃ (x5_1 : List (S62)) (x6_1 : Int), v6 = .int .i64 x6_1 ∧ Aside0 (purflingref13_Bands.l0 kq l0 l1 x5_1 x6_1 = some r) ∧ Aside0 (kq ≤ k) ∧ Aside0 (Kd.R k62 62 w' w.heap.size (fun _ => True) v5 x5_1) ∧ Aside0 (Below w.heap.size w w'))
  case atStart => exact ⟨(([] : List (S62))), (0), (by first | rfl | (simp; done) | (simp [*]; done)), H', ⟨Nat.le_refl _⟩, ⟨by first | exact Kd.R_nil _ _ _ _ _ | exact Kd.N_nil _ _ _ _ _ | exact Kd.V_nil _ _ _ _ _ | exact Kd.Q_nil _ _ _ _ _ | exact Kd.S_nil _ _ _ _ _⟩, ⟨by repeat (first | (with_reducible first | exact HB.out | apply below_alloc | apply pw_below_drewN | apply below_drew1) | exact HB.out)⟩⟩
  case round =>
    clear H'
    try clear c1
    try clear p2
    obtain ⟨x5_1, x6_1, rfl, HA, HK1, HO_5, HB⟩ := hrel
    cases gk with
    | zero => exact absurd HA.out (by simp [purflingref13_Bands.l0])
    | succ k1 =>
      have H := HA.out
      clear HA
      simp only [purflingref13_Bands.l0] at H
      by_cases c3 : x6_1 < (l0.length : Int)
      · rw [if_pos c3] at H
        have c3b0 : decide (x6_1 < (l0.length : Int)) = true := decide_eq_true c3
        clear c3
        by_cases c4 : 0 ≤ x6_1
        · rw [if_pos c4] at H
          have c4b0 : decide (0 ≤ x6_1) = true := decide_eq_true c4
          clear c4
          have HC5 := Aside0.mk H
          clear H
          go_upto_if 22 with (first | ((with_reducible refine gate_dst (N := 7) rfl ?_); refine box_event ?hg (N := 7) ?hd (cs := #[.int .i64 0, .int .i64 0, .int .i64 0, .int .i64 0]) (t := 62) ?hr ?_; (case hd => rfl); (case hg => rfl); (case hr => first | (go_simp; done) | (go_simp; rfl)); intro gb364 hg w6 hbox hb; have n0_ := Aside0.mk (Kd.R_below (Kd.R_elderB (by (with_reducible repeat (first | apply Kd.R_alloc | apply Kd.R_drewN | apply Kd.R_drew)); exact HO_5.out) gb364 (Nat.le_of_eq hg.symm)) hb); have n1_ := Aside0.mk (below_step (by repeat (first | (with_reducible first | exact HB.out | apply below_alloc | apply pw_below_drewN | apply below_drew1) | exact HB.out)) hb); have n2_ := Aside0.mk (hbox); have n3_ := Aside0.mk ((by rw [hg]; exact (below_size (by repeat (first | (with_reducible first | exact HB.out | apply below_alloc | apply pw_below_drewN | apply below_drew1) | exact HB.out))) : w.heap.size ≤ gb364)); have n4_ := Aside0.mk ((by rw [hg]; exact (below_size (by repeat (first | (with_reducible first | exact HB.out | apply below_alloc | apply pw_below_drewN | apply below_drew1) | exact HB.out))) : w.heap.size ≤ gb364)); clear HO_5; clear HB; have HO_5 := n0_; have HB := n1_; have BK364 := n2_; have GW364 := n3_; have GE364 := n4_; clear n0_ n1_ n2_ n3_ n4_; clear hb hbox hg; have hcz7_0 : w6.cell? ⟨gb364, 0, none⟩ = some (.int .i64 0) := (blk_cell BK364.out 0).trans rfl; have hcz7_1 : w6.cell? ⟨gb364, 1, none⟩ = some (.int .i64 0) := (blk_cell BK364.out 1).trans rfl; have hcz7_2 : w6.cell? ⟨gb364, 2, none⟩ = some (.int .i64 0) := (blk_cell BK364.out 2).trans rfl; have hcz7_3 : w6.cell? ⟨gb364, 3, none⟩ = some (.int .i64 0) := (blk_cell BK364.out 3).trans rfl; have hfz7_0 := blk_frozen BK364.out 0; have hfz7_1 := blk_frozen BK364.out 1; have hfz7_2 := blk_frozen BK364.out 2; have hfz7_3 := blk_frozen BK364.out 3; have p365 : 0 ≤ (x6_1 : Int) := of_decide_eq_true (by first | (with_reducible assumption) | assumption); have q365 : x6_1 < (l0.length : Int) := of_decide_eq_true (by first | (with_reducible assumption) | assumption); obtain ⟨ad365, e365, hx365_0, hx365_1⟩ := at_T58 HR0.out x6_1 p365 q365; cases e365; have hn365_0 : ad365.block ≠ gb364 := Nat.ne_of_lt (Nat.lt_of_lt_of_le (by have := World.block_lt_of_cell? _ _ hx365_0; first | rwa [add_block] at this | exact this) GW364.out); have hn365_1 : ad365.block ≠ gb364 := Nat.ne_of_lt (Nat.lt_of_lt_of_le (by have := World.block_lt_of_cell? _ _ hx365_0; first | rwa [add_block] at this | exact this) GW364.out); have hn365_2 : ad365.block ≠ gb364 := Nat.ne_of_lt (Nat.lt_of_lt_of_le (by have := World.block_lt_of_cell? _ _ hx365_0; first | rwa [add_block] at this | exact this) GW364.out); have hn365_3 : ad365.block ≠ gb364 := Nat.ne_of_lt (Nat.lt_of_lt_of_le (by have := World.block_lt_of_cell? _ _ hx365_0; first | rwa [add_block] at this | exact this) GW364.out); replace hx365_0 := (HB.out.cell (World.block_lt_of_cell? w _ hx365_0)).trans hx365_0; replace hx365_1 := (HB.out.cell (World.block_lt_of_cell? w _ hx365_1)).trans hx365_1; replace hx365_0 := (cell_far (p := ⟨gb364, 0, none⟩) (by first | (rw [add_block]; exact hn365_0) | (show (Addr.add _ _).block ≠ _; rw [add_block]; exact hn365_0) | exact hn365_0) (.int .i64 0)).trans hx365_0; replace hx365_1 := (cell_far (p := ⟨gb364, 0, none⟩) (by first | (rw [add_block]; exact hn365_0) | (show (Addr.add _ _).block ≠ _; rw [add_block]; exact hn365_0) | exact hn365_0) (.int .i64 0)).trans hx365_1; replace hx365_0 := (cell_far (p := ⟨gb364, 1, none⟩) (by first | (rw [add_block]; exact hn365_1) | (show (Addr.add _ _).block ≠ _; rw [add_block]; exact hn365_1) | exact hn365_1) (.int .i64 0)).trans hx365_0; replace hx365_1 := (cell_far (p := ⟨gb364, 1, none⟩) (by first | (rw [add_block]; exact hn365_1) | (show (Addr.add _ _).block ≠ _; rw [add_block]; exact hn365_1) | exact hn365_1) (.int .i64 0)).trans hx365_1; replace hx365_0 := (cell_far (p := ⟨gb364, 2, none⟩) (by first | (rw [add_block]; exact hn365_2) | (show (Addr.add _ _).block ≠ _; rw [add_block]; exact hn365_2) | exact hn365_2) (.int .i64 (-1))).trans hx365_0; replace hx365_1 := (cell_far (p := ⟨gb364, 2, none⟩) (by first | (rw [add_block]; exact hn365_2) | (show (Addr.add _ _).block ≠ _; rw [add_block]; exact hn365_2) | exact hn365_2) (.int .i64 (-1))).trans hx365_1; replace hx365_0 := (cell_far (p := ⟨gb364, 3, none⟩) (by first | (rw [add_block]; exact hn365_3) | (show (Addr.add _ _).block ≠ _; rw [add_block]; exact hn365_3) | exact hn365_3) (.int .i64 (-1))).trans hx365_0; replace hx365_1 := (cell_far (p := ⟨gb364, 3, none⟩) (by first | (rw [add_block]; exact hn365_3) | (show (Addr.add _ _).block ≠ _; rw [add_block]; exact hn365_3) | exact hn365_3) (.int .i64 (-1))).trans hx365_1; clear hn365_0; clear hn365_1; clear hn365_2; clear hn365_3; replace p365 := eq_true p365; replace q365 := eq_true q365))
          (try simp only [Act.put, List.setIfInBounds_toArray, List.set_cons_zero, List.set_cons_succ])
          go_cut [] (fun wc => ∃ (kq : Nat) (x365003_4 : Int), Aside0 (purflingref13_Bands.j1 kq l0 l1 x5_1 x6_1 0 0 (-1) x365003_4 = some r) ∧ Aside0 (kq ≤ k1) ∧ Aside0 (Kd.R k62 62 wc w.heap.size (fun k_ => k_ ≠ gb364) u5 x5_1) ∧ Aside0 (wc.heap[gb364]? = some (.cells #[.int .i64 0, .int .i64 0, .int .i64 (-1), .int .i64 x365003_4] 62 (0, 0))) ∧ Aside0 (Below w.heap.size w wc))
          case first =>
            have H := HC5.out
            clear HC5
            by_cases c8 : ((rd_T58 l0 x6_1).f0) = 1
            · rw [if_pos c8] at H
              have c8b0 : (((rd_T58 l0 x6_1).f0) == 1) = true := beq_iff_eq.mpr c8
              have c8b1 : (((rd_T58 l0 x6_1).f0) != 1) = false := bne_eq_false_iff_eq.mpr c8
              clear c8
              (first | rw [c8b0] | (simp only [i64_w, i32_w]; rw [c8b0]) | skip)
              have H' := Aside0.mk H
              clear H
              have p366 : 0 ≤ (x6_1 : Int) := of_decide_eq_true (by first | (with_reducible assumption) | assumption)
              have q366 : x6_1 < (l0.length : Int) := of_decide_eq_true (by first | (with_reducible assumption) | assumption)
              obtain ⟨ad366, e366, hx366_0, hx366_1⟩ := at_T58 HR0.out x6_1 p366 q366
              obtain rfl : ad365 = ad366 := (by injection e366)
              have hn366_0 : ad365.block ≠ gb364 := Nat.ne_of_lt (Nat.lt_of_lt_of_le (by have := World.block_lt_of_cell? _ _ hx366_0; first | rwa [add_block] at this | exact this) GW364.out)
              have hn366_1 : ad365.block ≠ gb364 := Nat.ne_of_lt (Nat.lt_of_lt_of_le (by have := World.block_lt_of_cell? _ _ hx366_0; first | rwa [add_block] at this | exact this) GW364.out)
              have hn366_2 : ad365.block ≠ gb364 := Nat.ne_of_lt (Nat.lt_of_lt_of_le (by have := World.block_lt_of_cell? _ _ hx366_0; first | rwa [add_block] at this | exact this) GW364.out)
              have hn366_3 : ad365.block ≠ gb364 := Nat.ne_of_lt (Nat.lt_of_lt_of_le (by have := World.block_lt_of_cell? _ _ hx366_0; first | rwa [add_block] at this | exact this) GW364.out)
              replace hx366_0 := (HB.out.cell (World.block_lt_of_cell? w _ hx366_0)).trans hx366_0
              replace hx366_1 := (HB.out.cell (World.block_lt_of_cell? w _ hx366_1)).trans hx366_1
              replace hx366_0 := (cell_far (p := ⟨gb364, 0, none⟩) (by first | (rw [add_block]; exact hn366_0) | (show (Addr.add _ _).block ≠ _; rw [add_block]; exact hn366_0) | exact hn366_0) (.int .i64 0)).trans hx366_0
              replace hx366_1 := (cell_far (p := ⟨gb364, 0, none⟩) (by first | (rw [add_block]; exact hn366_0) | (show (Addr.add _ _).block ≠ _; rw [add_block]; exact hn366_0) | exact hn366_0) (.int .i64 0)).trans hx366_1
              replace hx366_0 := (cell_far (p := ⟨gb364, 1, none⟩) (by first | (rw [add_block]; exact hn366_1) | (show (Addr.add _ _).block ≠ _; rw [add_block]; exact hn366_1) | exact hn366_1) (.int .i64 0)).trans hx366_0
              replace hx366_1 := (cell_far (p := ⟨gb364, 1, none⟩) (by first | (rw [add_block]; exact hn366_1) | (show (Addr.add _ _).block ≠ _; rw [add_block]; exact hn366_1) | exact hn366_1) (.int .i64 0)).trans hx366_1
              replace hx366_0 := (cell_far (p := ⟨gb364, 2, none⟩) (by first | (rw [add_block]; exact hn366_2) | (show (Addr.add _ _).block ≠ _; rw [add_block]; exact hn366_2) | exact hn366_2) (.int .i64 (-1))).trans hx366_0
              replace hx366_1 := (cell_far (p := ⟨gb364, 2, none⟩) (by first | (rw [add_block]; exact hn366_2) | (show (Addr.add _ _).block ≠ _; rw [add_block]; exact hn366_2) | exact hn366_2) (.int .i64 (-1))).trans hx366_1
              replace hx366_0 := (cell_far (p := ⟨gb364, 3, none⟩) (by first | (rw [add_block]; exact hn366_3) | (show (Addr.add _ _).block ≠ _; rw [add_block]; exact hn366_3) | exact hn366_3) (.int .i64 (-1))).trans hx366_0
              replace hx366_1 := (cell_far (p := ⟨gb364, 3, none⟩) (by first | (rw [add_block]; exact hn366_3) | (show (Addr.add _ _).block ≠ _; rw [add_block]; exact hn366_3) | exact hn366_3) (.int .i64 (-1))).trans hx366_1
              clear hn366_0
              clear hn366_1
              clear hn366_2
              clear hn366_3
              replace p366 := eq_true p366
              replace q366 := eq_true q366
              have hcz9_0 : w6.cell? ⟨gb364, 0, none⟩ = some (.int .i64 0) := (blk_cell BK364.out 0).trans rfl
              have hcz9_1 : w6.cell? ⟨gb364, 1, none⟩ = some (.int .i64 0) := (blk_cell BK364.out 1).trans rfl
              have hcz9_2 : w6.cell? ⟨gb364, 2, none⟩ = some (.int .i64 0) := (blk_cell BK364.out 2).trans rfl
              have hcz9_3 : w6.cell? ⟨gb364, 3, none⟩ = some (.int .i64 0) := (blk_cell BK364.out 3).trans rfl
              have hfz9_0 := blk_frozen BK364.out 0
              have hfz9_1 := blk_frozen BK364.out 1
              have hfz9_2 := blk_frozen BK364.out 2
              have hfz9_3 := blk_frozen BK364.out 3
              go_wp2
              go_meet
              case rel => exact ⟨_, ((rd_T58 l0 x6_1).f1), H', ⟨by have := HK1.out; first | omega | exact Nat.le_refl _⟩, ⟨by (with_reducible repeat (first | apply Kd.R_alloc | apply Kd.R_drewN | apply Kd.R_drew)); exact Kd.R_mono (Kd.R_far (p := ⟨gb364, 3, none⟩) (Kd.R_far (p := ⟨gb364, 3, none⟩) (Kd.R_far (p := ⟨gb364, 2, none⟩) (Kd.R_far (p := ⟨gb364, 1, none⟩) (Kd.R_far (p := ⟨gb364, 0, none⟩) (Kd.R_mono HO_5.out (fun k_ hk => (⟨hk, hk.2⟩ : _ ∧ k_ ≠ gb364))) (fun _ hk => hk.2) (.int .i64 0)) (fun _ hk => hk.2) (.int .i64 0)) (fun _ hk => hk.2) (.int .i64 (-1))) (fun _ hk => hk.2) (.int .i64 (-1))) (fun _ hk => hk.2) (.int .i64 ((rd_T58 l0 x6_1).f1))) (fun _ hk => hk.1.2)⟩, ⟨by (with_reducible repeat (first | refine blk_drewN ?_ _ | refine blk_drew ?_ | refine blk_alloc ?_ _)); refine blk_put (cs := #[.int .i64 0, .int .i64 0, .int .i64 (-1), .int .i64 (-1)]) ?_ 3 _ rfl; (with_reducible repeat (first | refine blk_drewN ?_ _ | refine blk_drew ?_ | refine blk_alloc ?_ _)); refine blk_put (cs := #[.int .i64 0, .int .i64 0, .int .i64 (-1), .int .i64 0]) ?_ 3 _ rfl; (with_reducible repeat (first | refine blk_drewN ?_ _ | refine blk_drew ?_ | refine blk_alloc ?_ _)); refine blk_put (cs := #[.int .i64 0, .int .i64 0, .int .i64 0, .int .i64 0]) ?_ 2 _ rfl; (with_reducible repeat (first | refine blk_drewN ?_ _ | refine blk_drew ?_ | refine blk_alloc ?_ _)); refine blk_put (cs := #[.int .i64 0, .int .i64 0, .int .i64 0, .int .i64 0]) ?_ 1 _ rfl; (with_reducible repeat (first | refine blk_drewN ?_ _ | refine blk_drew ?_ | refine blk_alloc ?_ _)); refine blk_put (cs := #[.int .i64 0, .int .i64 0, .int .i64 0, .int .i64 0]) ?_ 0 _ rfl; (with_reducible repeat (first | refine blk_drewN ?_ _ | refine blk_drew ?_ | refine blk_alloc ?_ _)); exact BK364.out⟩, ⟨by repeat (first | (with_reducible first | exact HB.out | apply below_alloc | apply pw_below_drewN | apply below_drew1 | refine below_set ?_ GE364.out) | exact HB.out)⟩⟩
            · rw [if_neg c8] at H
              have c8b0 : (((rd_T58 l0 x6_1).f0) == 1) = false := beq_eq_false_iff_ne.mpr c8
              have c8b1 : (((rd_T58 l0 x6_1).f0) != 1) = true := bne_iff_ne.mpr c8
              (first | rw [c8b0] | (simp only [i64_w, i32_w]; rw [c8b0]) | skip)
              have H' := Aside0.mk H
              clear H
              go_wp2
              go_meet
              case rel => exact ⟨_, ((-1)), H', ⟨by have := HK1.out; first | omega | exact Nat.le_refl _⟩, ⟨by (with_reducible repeat (first | apply Kd.R_alloc | apply Kd.R_drewN | apply Kd.R_drew)); exact Kd.R_mono (Kd.R_far (p := ⟨gb364, 3, none⟩) (Kd.R_far (p := ⟨gb364, 2, none⟩) (Kd.R_far (p := ⟨gb364, 1, none⟩) (Kd.R_far (p := ⟨gb364, 0, none⟩) (Kd.R_mono HO_5.out (fun k_ hk => (⟨hk, hk.2⟩ : _ ∧ k_ ≠ gb364))) (fun _ hk => hk.2) (.int .i64 0)) (fun _ hk => hk.2) (.int .i64 0)) (fun _ hk => hk.2) (.int .i64 (-1))) (fun _ hk => hk.2) (.int .i64 (-1))) (fun _ hk => hk.1.2)⟩, ⟨by (with_reducible repeat (first | refine blk_drewN ?_ _ | refine blk_drew ?_ | refine blk_alloc ?_ _)); refine blk_put (cs := #[.int .i64 0, .int .i64 0, .int .i64 (-1), .int .i64 0]) ?_ 3 _ rfl; (with_reducible repeat (first | refine blk_drewN ?_ _ | refine blk_drew ?_ | refine blk_alloc ?_ _)); refine blk_put (cs := #[.int .i64 0, .int .i64 0, .int .i64 0, .int .i64 0]) ?_ 2 _ rfl; (with_reducible repeat (first | refine blk_drewN ?_ _ | refine blk_drew ?_ | refine blk_alloc ?_ _)); refine blk_put (cs := #[.int .i64 0, .int .i64 0, .int .i64 0, .int .i64 0]) ?_ 1 _ rfl; (with_reducible repeat (first | refine blk_drewN ?_ _ | refine blk_drew ?_ | refine blk_alloc ?_ _)); refine blk_put (cs := #[.int .i64 0, .int .i64 0, .int .i64 0, .int .i64 0]) ?_ 0 _ rfl; (with_reducible repeat (first | refine blk_drewN ?_ _ | refine blk_drew ?_ | refine blk_alloc ?_ _)); exact BK364.out⟩, ⟨by repeat (first | (with_reducible first | exact HB.out | apply below_alloc | apply pw_below_drewN | apply below_drew1 | refine below_set ?_ GE364.out) | exact HB.out)⟩⟩
          case rest =>
            clear HC5
            try clear c1
            try clear p2
            try clear c3
            try clear c3b0
            try clear p3
            try clear q3
            try clear hx3
            try clear c4
            try clear c4b0
            try clear c8
            try clear c8b0
            try clear c8b1
            try clear hcz7_0
            try clear hcz7_1
            try clear hcz7_2
            try clear hcz7_3
            try clear hcz9_0
            try clear hcz9_1
            try clear hcz9_2
            try clear hcz9_3
            try clear hfz7_0
            try clear hfz7_1
            try clear hfz7_2
            try clear hfz7_3
            try clear hfz9_0
            try clear hfz9_1
            try clear hfz9_2
            try clear hfz9_3
            try clear hx365_0
            try clear hx365_1
            try clear hx366_0
            try clear hx366_1
            try clear p2
            try clear p365
            try clear p366
            try clear q365
            try clear q366
            obtain ⟨kq, x365003_4, HA, HJ4, HO_5, BK364, HB⟩ := hcut
            cases kq with
            | zero => exact absurd HA.out (by simp [purflingref13_Bands.j1])
            | succ kj4 =>
              have H := HA.out
              clear HA
              simp only [purflingref13_Bands.j1] at H
              by_cases c10 : 0 ≤ x6_1
              · rw [if_pos c10] at H
                have c10b0 : decide (0 ≤ x6_1) = true := decide_eq_true c10
                clear c10
                by_cases c11 : x6_1 < (l0.length : Int)
                · rw [if_pos c11] at H
                  have c11b0 : decide (x6_1 < (l0.length : Int)) = true := decide_eq_true c11
                  clear c11
                  have HC12 := Aside0.mk H
                  clear H
                  have p367 : 0 ≤ (x6_1 : Int) := of_decide_eq_true (by first | (with_reducible assumption) | assumption)
                  have q367 : x6_1 < (l0.length : Int) := of_decide_eq_true (by first | (with_reducible assumption) | assumption)
                  obtain ⟨ad367, e367, hx367_0, hx367_1⟩ := at_T58 HR0.out x6_1 p367 q367
                  obtain rfl : ad365 = ad367 := (by injection e367)
                  replace hx367_0 := (HB.out.cell (World.block_lt_of_cell? w _ hx367_0)).trans hx367_0
                  replace hx367_1 := (HB.out.cell (World.block_lt_of_cell? w _ hx367_1)).trans hx367_1
                  replace p367 := eq_true p367
                  replace q367 := eq_true q367
                  go_upto_if 34 with (fail)
                  go_cut [] (fun wc => ∃ (kq : Nat) (x365002_11 : Int), Aside0 (purflingref13_Bands.j2 kq l0 l1 x5_1 x6_1 0 0 x365002_11 x365003_4 = some r) ∧ Aside0 (kq ≤ kj4) ∧ Aside0 (Kd.R k62 62 wc w.heap.size (fun k_ => k_ ≠ gb364) u5 x5_1) ∧ Aside0 (wc.heap[gb364]? = some (.cells #[.int .i64 0, .int .i64 0, .int .i64 x365002_11, .int .i64 x365003_4] 62 (0, 0))) ∧ Aside0 (Below w.heap.size w wc))
                  case first =>
                    have H := HC12.out
                    clear HC12
                    by_cases c13 : ((rd_T58 l0 x6_1).f0) = 2
                    · rw [if_pos c13] at H
                      have c13b0 : (((rd_T58 l0 x6_1).f0) == 2) = true := beq_iff_eq.mpr c13
                      have c13b1 : (((rd_T58 l0 x6_1).f0) != 2) = false := bne_eq_false_iff_eq.mpr c13
                      clear c13
                      (first | rw [c13b0] | (simp only [i64_w, i32_w]; rw [c13b0]) | skip)
                      have H' := Aside0.mk H
                      clear H
                      have p368 : 0 ≤ (x6_1 : Int) := of_decide_eq_true (by first | (with_reducible assumption) | assumption)
                      have q368 : x6_1 < (l0.length : Int) := of_decide_eq_true (by first | (with_reducible assumption) | assumption)
                      obtain ⟨ad368, e368, hx368_0, hx368_1⟩ := at_T58 HR0.out x6_1 p368 q368
                      obtain rfl : ad365 = ad368 := (by injection e368)
                      replace hx368_0 := (HB.out.cell (World.block_lt_of_cell? w _ hx368_0)).trans hx368_0
                      replace hx368_1 := (HB.out.cell (World.block_lt_of_cell? w _ hx368_1)).trans hx368_1
                      replace p368 := eq_true p368
                      replace q368 := eq_true q368
                      have hcz14_0 : wc.cell? ⟨gb364, 0, none⟩ = some (.int .i64 0) := (blk_cell BK364.out 0).trans rfl
                      have hcz14_1 : wc.cell? ⟨gb364, 1, none⟩ = some (.int .i64 0) := (blk_cell BK364.out 1).trans rfl
                      have hcz14_2 : wc.cell? ⟨gb364, 2, none⟩ = some (.int .i64 (-1)) := (blk_cell BK364.out 2).trans rfl
                      have hcz14_3 : wc.cell? ⟨gb364, 3, none⟩ = some (.int .i64 x365003_4) := (blk_cell BK364.out 3).trans rfl
                      have hfz14_0 := blk_frozen BK364.out 0
                      have hfz14_1 := blk_frozen BK364.out 1
                      have hfz14_2 := blk_frozen BK364.out 2
                      have hfz14_3 := blk_frozen BK364.out 3
                      go_wp2
                      go_meet
                      case rel => exact ⟨_, ((rd_T58 l0 x6_1).f1), H', ⟨by have := HK1.out; have := HJ4.out; first | omega | exact Nat.le_refl _⟩, ⟨by (with_reducible repeat (first | apply Kd.R_alloc | apply Kd.R_drewN | apply Kd.R_drew)); exact Kd.R_mono (Kd.R_far (p := ⟨gb364, 2, none⟩) (Kd.R_mono HO_5.out (fun k_ hk => (⟨hk, hk⟩ : _ ∧ k_ ≠ gb364))) (fun _ hk => hk.2) (.int .i64 ((rd_T58 l0 x6_1).f1))) (fun _ hk => hk.1)⟩, ⟨by (with_reducible repeat (first | refine blk_drewN ?_ _ | refine blk_drew ?_ | refine blk_alloc ?_ _)); refine blk_put (cs := #[.int .i64 0, .int .i64 0, .int .i64 (-1), .int .i64 x365003_4]) ?_ 2 _ rfl; (with_reducible repeat (first | refine blk_drewN ?_ _ | refine blk_drew ?_ | refine blk_alloc ?_ _)); exact BK364.out⟩, ⟨by repeat (first | (with_reducible first | exact HB.out | apply below_alloc | apply pw_below_drewN | apply below_drew1 | refine below_set ?_ GE364.out) | exact HB.out)⟩⟩
                    · rw [if_neg c13] at H
                      have c13b0 : (((rd_T58 l0 x6_1).f0) == 2) = false := beq_eq_false_iff_ne.mpr c13
                      have c13b1 : (((rd_T58 l0 x6_1).f0) != 2) = true := bne_iff_ne.mpr c13
                      (first | rw [c13b0] | (simp only [i64_w, i32_w]; rw [c13b0]) | skip)
                      have H' := Aside0.mk H
                      clear H
                      go_wp2
                      go_meet
                      case rel => exact ⟨_, ((-1)), H', ⟨by have := HK1.out; have := HJ4.out; first | omega | exact Nat.le_refl _⟩, ⟨by (with_reducible repeat (first | apply Kd.R_alloc | apply Kd.R_drewN | apply Kd.R_drew)); exact HO_5.out⟩, ⟨by (with_reducible repeat (first | refine blk_drewN ?_ _ | refine blk_drew ?_ | refine blk_alloc ?_ _)); exact BK364.out⟩, ⟨by repeat (first | (with_reducible first | exact HB.out | apply below_alloc | apply pw_below_drewN | apply below_drew1 | refine below_set ?_ GE364.out) | exact HB.out)⟩⟩
                  case rest =>
                    clear HC12
                    try clear c1
                    try clear p2
                    try clear c3
                    try clear c3b0
                    try clear p3
                    try clear q3
                    try clear hx3
                    try clear c4
                    try clear c4b0
                    try clear c8
                    try clear c8b0
                    try clear c8b1
                    try clear c10
                    try clear c10b0
                    try clear c11
                    try clear c11b0
                    try clear c13
                    try clear c13b0
                    try clear c13b1
                    try clear hcz14_0
                    try clear hcz14_1
                    try clear hcz14_2
                    try clear hcz14_3
                    try clear hcz7_0
                    try clear hcz7_1
                    try clear hcz7_2
                    try clear hcz7_3
                    try clear hcz9_0
                    try clear hcz9_1
                    try clear hcz9_2
                    try clear hcz9_3
                    try clear hfz14_0
                    try clear hfz14_1
                    try clear hfz14_2
                    try clear hfz14_3
                    try clear hfz7_0
                    try clear hfz7_1
                    try clear hfz7_2
                    try clear hfz7_3
                    try clear hfz9_0
                    try clear hfz9_1
                    try clear hfz9_2
                    try clear hfz9_3
                    try clear hx365_0
                    try clear hx365_1
                    try clear hx366_0
                    try clear hx366_1
                    try clear hx367_0
                    try clear hx367_1
                    try clear hx368_0
                    try clear hx368_1
                    try clear p2
                    try clear p3
                    try clear p365
                    try clear p366
                    try clear p367
                    try clear p368
                    try clear q3
                    try clear q365
                    try clear q366
                    try clear q367
                    try clear q368
                    obtain ⟨kq, x365002_11, HA, HJ11, HO_5, BK364, HB⟩ := hcut
                    cases kq with
                    | zero => exact absurd HA.out (by simp [purflingref13_Bands.j2])
                    | succ kj11 =>
                      have H := HA.out
                      clear HA
                      simp only [purflingref13_Bands.j2] at H
                      have H' := Aside0.mk H
                      clear H
                      go_wp2
                      go_loopg [8] kj11 (fun kq v8 w' => ∃ (x8_4 : Int) (x365000_4 : Int) (x365001_4 : Int) (x365002_4 : Int) (x365003_4 : Int), v8 = .int .i64 x8_4 ∧ Aside0 (purflingref13_Bands.l1 kq l0 l1 x5_1 x6_1 x8_4 x365000_4 x365001_4 x365002_4 x365003_4 = some r) ∧ Aside0 (kq ≤ kj11) ∧ Aside0 (Kd.R k62 62 w' w.heap.size (fun k_ => k_ ≠ gb364) u5 x5_1) ∧ Aside0 (w'.heap[gb364]? = some (.cells #[.int .i64 x365000_4, .int .i64 x365001_4, .int .i64 x365002_4, .int .i64 x365003_4] 62 (0, 0))) ∧ Aside0 (Below w.heap.size w w'))
                      case atStart => exact ⟨(0), (0), (0), (x365002_11), (x365003_4), (by first | rfl | (simp; done) | (simp [*]; done)), H', ⟨Nat.le_refl _⟩, ⟨by (with_reducible repeat (first | apply Kd.R_alloc | apply Kd.R_drewN | apply Kd.R_drew)); exact HO_5.out⟩, ⟨by (with_reducible repeat (first | refine blk_drewN ?_ _ | refine blk_drew ?_ | refine blk_alloc ?_ _)); exact BK364.out⟩, ⟨by repeat (first | (with_reducible first | exact HB.out | apply below_alloc | apply pw_below_drewN | apply below_drew1 | refine below_set ?_ GE364.out) | exact HB.out)⟩⟩
                      case round =>
                        clear H'
                        try clear c1
                        try clear p2
                        try clear c3
                        try clear c3b0
                        try clear p3
                        try clear q3
                        try clear hx3
                        try clear c4
                        try clear c4b0
                        try clear c8
                        try clear c8b0
                        try clear c8b1
                        try clear c10
                        try clear c10b0
                        try clear c11
                        try clear c11b0
                        try clear c13
                        try clear c13b0
                        try clear c13b1
                        try clear hcz14_0
                        try clear hcz14_1
                        try clear hcz14_2
                        try clear hcz14_3
                        try clear hcz7_0
                        try clear hcz7_1
                        try clear hcz7_2
                        try clear hcz7_3
                        try clear hcz9_0
                        try clear hcz9_1
                        try clear hcz9_2
                        try clear hcz9_3
                        try clear hfz14_0
                        try clear hfz14_1
                        try clear hfz14_2
                        try clear hfz14_3
                        try clear hfz7_0
                        try clear hfz7_1
                        try clear hfz7_2
                        try clear hfz7_3
                        try clear hfz9_0
                        try clear hfz9_1
                        try clear hfz9_2
                        try clear hfz9_3
                        try clear hx365_0
                        try clear hx365_1
                        try clear hx366_0
                        try clear hx366_1
                        try clear hx367_0
                        try clear hx367_1
                        try clear hx368_0
                        try clear hx368_1
                        try clear p2
                        try clear p3
                        try clear p365
                        try clear p366
                        try clear p367
                        try clear p368
                        try clear q3
                        try clear q365
                        try clear q366
                        try clear q367
                        try clear q368
                        obtain ⟨x8_4, x365000_4, x365001_4, x365002_4, x365003_4, rfl, HA, HK4, HO_5, BK364, HB⟩ := hrel
                        cases gk with
                        | zero => exact absurd HA.out (by simp [purflingref13_Bands.l1])
                        | succ k4 =>
                          have H := HA.out
                          clear HA
                          simp only [purflingref13_Bands.l1] at H
                          by_cases c15 : x8_4 < (l1.length : Int)
                          · rw [if_pos c15] at H
                            have c15b0 : decide (x8_4 < (l1.length : Int)) = true := decide_eq_true c15
                            clear c15
                            by_cases c16 : 0 ≤ x8_4
                            · rw [if_pos c16] at H
                              have c16b0 : decide (0 ≤ x8_4) = true := decide_eq_true c16
                              clear c16
                              have HC17 := Aside0.mk H
                              clear H
                              have p369 : 0 ≤ (x8_4 : Int) := of_decide_eq_true (by first | (with_reducible assumption) | assumption)
                              have q369 : x8_4 < (l1.length : Int) := of_decide_eq_true (by first | (with_reducible assumption) | assumption)
                              obtain ⟨ad369, e369, hx369_0, hx369_1, hx369_2, hx369_3, hx369_4, hx369_5, hx369_6, hx369_7, hx369_8⟩ := at_T60 HR1.out x8_4 p369 q369
                              cases e369
                              replace hx369_0 := (HB.out.cell (World.block_lt_of_cell? w _ hx369_0)).trans hx369_0
                              replace hx369_1 := (HB.out.cell (World.block_lt_of_cell? w _ hx369_1)).trans hx369_1
                              replace hx369_2 := (HB.out.cell (World.block_lt_of_cell? w _ hx369_2)).trans hx369_2
                              replace hx369_3 := (HB.out.cell (World.block_lt_of_cell? w _ hx369_3)).trans hx369_3
                              replace hx369_4 := (HB.out.cell (World.block_lt_of_cell? w _ hx369_4)).trans hx369_4
                              replace hx369_5 := (HB.out.cell (World.block_lt_of_cell? w _ hx369_5)).trans hx369_5
                              replace hx369_6 := (HB.out.cell (World.block_lt_of_cell? w _ hx369_6)).trans hx369_6
                              replace hx369_7 := (HB.out.cell (World.block_lt_of_cell? w _ hx369_7)).trans hx369_7
                              replace hx369_8 := (HB.out.cell (World.block_lt_of_cell? w _ hx369_8)).trans hx369_8
                              replace p369 := eq_true p369
                              replace q369 := eq_true q369
                              go_upto_region 14 with (first | ((with_reducible refine gate_dst (N := 9) rfl ?_); refine box_event ?hg (N := 9) ?hd (cs := #[.int .i64 0, .int .i64 0, .int .i64 0, .int .i64 0, .int .i64 0, .int .i64 0, .int .i64 0, .int .i64 0, .int .i64 0]) (t := 60) ?hr ?_; (case hd => rfl); (case hg => rfl); (case hr => first | (go_simp; done) | (go_simp; rfl)); intro gb370 hg w18 hbox hb; have n0_ := Aside0.mk (Kd.R_below (by (with_reducible repeat (first | apply Kd.R_alloc | apply Kd.R_drewN | apply Kd.R_drew)); exact HO_5.out) hb); have n1_ := Aside0.mk (blk_below (g := gb364) (o := .cells #[.int .i64 x365000_4, .int .i64 x365001_4, .int .i64 x365002_4, .int .i64 x365003_4] 62 (0, 0)) (by (with_reducible repeat (first | refine blk_drewN ?_ _ | refine blk_drew ?_ | refine blk_alloc ?_ _)); exact BK364.out) hb); have n2_ := Aside0.mk (below_step (by repeat (first | (with_reducible first | exact HB.out | apply below_alloc | apply pw_below_drewN | apply below_drew1 | refine below_set ?_ GE364.out) | exact HB.out)) hb); have n3_ := Aside0.mk (hbox); have n4_ := Aside0.mk ((by rw [hg]; exact (below_size (by repeat (first | (with_reducible first | exact HB.out | apply below_alloc | apply pw_below_drewN | apply below_drew1 | refine below_set ?_ GE364.out) | exact HB.out))) : w.heap.size ≤ gb370)); have n5_ := Aside0.mk ((by rw [hg]; exact (below_size (by repeat (first | (with_reducible first | exact HB.out | apply below_alloc | apply pw_below_drewN | apply below_drew1 | refine below_set ?_ GE364.out) | exact HB.out))) : w.heap.size ≤ gb370)); have n6_ := Aside0.mk ((by rw [hg]; exact Nat.ne_of_lt (blk_lt (g := gb364) (o := .cells #[.int .i64 x365000_4, .int .i64 x365001_4, .int .i64 x365002_4, .int .i64 x365003_4] 62 (0, 0)) (by (with_reducible repeat (first | refine blk_drewN ?_ _ | refine blk_drew ?_ | refine blk_alloc ?_ _)); exact BK364.out)) : gb364 ≠ gb370)); have n7_ := Aside0.mk ((by rw [hg]; exact Nat.ne_of_gt (blk_lt (g := gb364) (o := .cells #[.int .i64 x365000_4, .int .i64 x365001_4, .int .i64 x365002_4, .int .i64 x365003_4] 62 (0, 0)) (by (with_reducible repeat (first | refine blk_drewN ?_ _ | refine blk_drew ?_ | refine blk_alloc ?_ _)); exact BK364.out)) : gb370 ≠ gb364)); clear HO_5; clear BK364; clear HB; have HO_5 := n0_; have BK364 := n1_; have HB := n2_; have BK370 := n3_; have GW370 := n4_; have GE370 := n5_; have NB364_370 := n6_; have NB370_364 := n7_; clear n0_ n1_ n2_ n3_ n4_ n5_ n6_ n7_; clear hb hbox hg; have hnb19 := NB370_364.out; have hnc19 := NB364_370.out; have hcz20_0 : w18.cell? ⟨gb370, 0, none⟩ = some (.int .i64 0) := (blk_cell BK370.out 0).trans rfl; have hcz20_1 : w18.cell? ⟨gb370, 1, none⟩ = some (.int .i64 0) := (blk_cell BK370.out 1).trans rfl; have hcz20_2 : w18.cell? ⟨gb370, 2, none⟩ = some (.int .i64 0) := (blk_cell BK370.out 2).trans rfl; have hcz20_3 : w18.cell? ⟨gb370, 3, none⟩ = some (.int .i64 0) := (blk_cell BK370.out 3).trans rfl; have hcz20_4 : w18.cell? ⟨gb370, 4, none⟩ = some (.int .i64 0) := (blk_cell BK370.out 4).trans rfl; have hcz20_5 : w18.cell? ⟨gb370, 5, none⟩ = some (.int .i64 0) := (blk_cell BK370.out 5).trans rfl; have hcz20_6 : w18.cell? ⟨gb370, 6, none⟩ = some (.int .i64 0) := (blk_cell BK370.out 6).trans rfl; have hcz20_7 : w18.cell? ⟨gb370, 7, none⟩ = some (.int .i64 0) := (blk_cell BK370.out 7).trans rfl; have hcz20_8 : w18.cell? ⟨gb370, 8, none⟩ = some (.int .i64 0) := (blk_cell BK370.out 8).trans rfl; have hfz20_0 := blk_frozen BK370.out 0; have hfz20_1 := blk_frozen BK370.out 1; have hfz20_2 := blk_frozen BK370.out 2; have hfz20_3 := blk_frozen BK370.out 3; have hfz20_4 := blk_frozen BK370.out 4; have hfz20_5 := blk_frozen BK370.out 5; have hfz20_6 := blk_frozen BK370.out 6; have hfz20_7 := blk_frozen BK370.out 7; have hfz20_8 := blk_frozen BK370.out 8))
                              (try simp only [Act.put, List.setIfInBounds_toArray, List.set_cons_zero, List.set_cons_succ])
                              go_cut [61] (fun v61 wc => ∃ (kq : Nat) (x61_16 : Bool), v61 = .bool x61_16 ∧ Aside0 (purflingref13_Bands.j4 kq l0 l1 x5_1 x6_1 x8_4 x61_16 x365000_4 x365001_4 x365002_4 x365003_4 ((rd_T60 l1 x8_4).f0.f0) ((rd_T60 l1 x8_4).f0.f1) ((rd_T60 l1 x8_4).f0.f2) ((rd_T60 l1 x8_4).f0.f3) ((rd_T60 l1 x8_4).f0.f4) ((rd_T60 l1 x8_4).f1) ((rd_T60 l1 x8_4).f2) ((rd_T60 l1 x8_4).f3.f0) ((rd_T60 l1 x8_4).f3.f1) = some r) ∧ Aside0 (kq ≤ k4) ∧ Aside0 (Kd.R k62 62 wc w.heap.size (fun k_ => k_ ≠ gb364) u5 x5_1) ∧ Aside0 (wc.heap[gb364]? = some (.cells #[.int .i64 x365000_4, .int .i64 x365001_4, .int .i64 x365002_4, .int .i64 x365003_4] 62 (0, 0))) ∧ Aside0 (wc.heap[gb370]? = some (.cells #[.int .i64 ((rd_T60 l1 x8_4).f0.f0), .int .i64 ((rd_T60 l1 x8_4).f0.f1), .int .i64 ((rd_T60 l1 x8_4).f0.f2), .int .i64 ((rd_T60 l1 x8_4).f0.f3), .int .i64 ((rd_T60 l1 x8_4).f0.f4), .int .i64 ((rd_T60 l1 x8_4).f1), .int .i64 ((rd_T60 l1 x8_4).f2), .int .i64 ((rd_T60 l1 x8_4).f3.f0), .int .i64 ((rd_T60 l1 x8_4).f3.f1)] 60 (0, 0))) ∧ Aside0 (Below w.heap.size w wc))
                              case first =>
                                have H := HC17.out
                                clear HC17
                                by_cases c21 : ((rd_T60 l1 x8_4).f0.f2) = x6_1
                                · rw [if_pos c21] at H
                                  have c21b0 : (((rd_T60 l1 x8_4).f0.f2) == x6_1) = true := beq_iff_eq.mpr c21
                                  have c21b1 : (((rd_T60 l1 x8_4).f0.f2) != x6_1) = false := bne_eq_false_iff_eq.mpr c21
                                  clear c21
                                  (first | rw [c21b0] | (simp only [i64_w, i32_w]; rw [c21b0]) | skip)
                                  have H' := Aside0.mk H
                                  clear H
                                  have hnb22 := NB370_364.out
                                  have hnc22 := NB364_370.out
                                  have hcz23_0 : w18.cell? ⟨gb370, 0, none⟩ = some (.int .i64 0) := (blk_cell BK370.out 0).trans rfl
                                  have hcz23_1 : w18.cell? ⟨gb370, 1, none⟩ = some (.int .i64 0) := (blk_cell BK370.out 1).trans rfl
                                  have hcz23_2 : w18.cell? ⟨gb370, 2, none⟩ = some (.int .i64 0) := (blk_cell BK370.out 2).trans rfl
                                  have hcz23_3 : w18.cell? ⟨gb370, 3, none⟩ = some (.int .i64 0) := (blk_cell BK370.out 3).trans rfl
                                  have hcz23_4 : w18.cell? ⟨gb370, 4, none⟩ = some (.int .i64 0) := (blk_cell BK370.out 4).trans rfl
                                  have hcz23_5 : w18.cell? ⟨gb370, 5, none⟩ = some (.int .i64 0) := (blk_cell BK370.out 5).trans rfl
                                  have hcz23_6 : w18.cell? ⟨gb370, 6, none⟩ = some (.int .i64 0) := (blk_cell BK370.out 6).trans rfl
                                  have hcz23_7 : w18.cell? ⟨gb370, 7, none⟩ = some (.int .i64 0) := (blk_cell BK370.out 7).trans rfl
                                  have hcz23_8 : w18.cell? ⟨gb370, 8, none⟩ = some (.int .i64 0) := (blk_cell BK370.out 8).trans rfl
                                  have hfz23_0 := blk_frozen BK370.out 0
                                  have hfz23_1 := blk_frozen BK370.out 1
                                  have hfz23_2 := blk_frozen BK370.out 2
                                  have hfz23_3 := blk_frozen BK370.out 3
                                  have hfz23_4 := blk_frozen BK370.out 4
                                  have hfz23_5 := blk_frozen BK370.out 5
                                  have hfz23_6 := blk_frozen BK370.out 6
                                  have hfz23_7 := blk_frozen BK370.out 7
                                  have hfz23_8 := blk_frozen BK370.out 8
                                  go_wp2
                                  go_meet
                                  case rel => exact ⟨_, ((((rd_T60 l1 x8_4).f0.f4) != 1)), (by first | rfl | (simp; done) | (simp [*]; done)), H', ⟨by have := HK1.out; have := HJ4.out; have := HJ11.out; have := HK4.out; first | omega | exact Nat.le_refl _⟩, ⟨by (with_reducible repeat (first | apply Kd.R_alloc | apply Kd.R_drewN | apply Kd.R_drew)); exact Kd.R_mono (Kd.R_far (p := ⟨gb370, 8, none⟩) (Kd.R_far (p := ⟨gb370, 7, none⟩) (Kd.R_far (p := ⟨gb370, 6, none⟩) (Kd.R_far (p := ⟨gb370, 5, none⟩) (Kd.R_far (p := ⟨gb370, 4, none⟩) (Kd.R_far (p := ⟨gb370, 3, none⟩) (Kd.R_far (p := ⟨gb370, 2, none⟩) (Kd.R_far (p := ⟨gb370, 1, none⟩) (Kd.R_far (p := ⟨gb370, 0, none⟩) (Kd.R_types HO_5.out BK370.out (by decide)) (fun _ hk => hk.2) (.int .i64 ((rd_T60 l1 x8_4).f0.f0))) (fun _ hk => hk.2) (.int .i64 ((rd_T60 l1 x8_4).f0.f1))) (fun _ hk => hk.2) (.int .i64 ((rd_T60 l1 x8_4).f0.f2))) (fun _ hk => hk.2) (.int .i64 ((rd_T60 l1 x8_4).f0.f3))) (fun _ hk => hk.2) (.int .i64 ((rd_T60 l1 x8_4).f0.f4))) (fun _ hk => hk.2) (.int .i64 ((rd_T60 l1 x8_4).f1))) (fun _ hk => hk.2) (.int .i64 ((rd_T60 l1 x8_4).f2))) (fun _ hk => hk.2) (.int .i64 ((rd_T60 l1 x8_4).f3.f0))) (fun _ hk => hk.2) (.int .i64 ((rd_T60 l1 x8_4).f3.f1))) (fun _ hk => hk.1)⟩, ⟨by (with_reducible repeat (first | refine blk_drewN ?_ _ | refine blk_drew ?_ | refine blk_alloc ?_ _)); refine blk_far ?_ NB364_370.out _; (with_reducible repeat (first | refine blk_drewN ?_ _ | refine blk_drew ?_ | refine blk_alloc ?_ _)); refine blk_far ?_ NB364_370.out _; (with_reducible repeat (first | refine blk_drewN ?_ _ | refine blk_drew ?_ | refine blk_alloc ?_ _)); refine blk_far ?_ NB364_370.out _; (with_reducible repeat (first | refine blk_drewN ?_ _ | refine blk_drew ?_ | refine blk_alloc ?_ _)); refine blk_far ?_ NB364_370.out _; (with_reducible repeat (first | refine blk_drewN ?_ _ | refine blk_drew ?_ | refine blk_alloc ?_ _)); refine blk_far ?_ NB364_370.out _; (with_reducible repeat (first | refine blk_drewN ?_ _ | refine blk_drew ?_ | refine blk_alloc ?_ _)); refine blk_far ?_ NB364_370.out _; (with_reducible repeat (first | refine blk_drewN ?_ _ | refine blk_drew ?_ | refine blk_alloc ?_ _)); refine blk_far ?_ NB364_370.out _; (with_reducible repeat (first | refine blk_drewN ?_ _ | refine blk_drew ?_ | refine blk_alloc ?_ _)); refine blk_far ?_ NB364_370.out _; (with_reducible repeat (first | refine blk_drewN ?_ _ | refine blk_drew ?_ | refine blk_alloc ?_ _)); refine blk_far ?_ NB364_370.out _; (with_reducible repeat (first | refine blk_drewN ?_ _ | refine blk_drew ?_ | refine blk_alloc ?_ _)); exact BK364.out⟩, ⟨by (with_reducible repeat (first | refine blk_drewN ?_ _ | refine blk_drew ?_ | refine blk_alloc ?_ _)); refine blk_put (cs := #[.int .i64 ((rd_T60 l1 x8_4).f0.f0), .int .i64 ((rd_T60 l1 x8_4).f0.f1), .int .i64 ((rd_T60 l1 x8_4).f0.f2), .int .i64 ((rd_T60 l1 x8_4).f0.f3), .int .i64 ((rd_T60 l1 x8_4).f0.f4), .int .i64 ((rd_T60 l1 x8_4).f1), .int .i64 ((rd_T60 l1 x8_4).f2), .int .i64 ((rd_T60 l1 x8_4).f3.f0), .int .i64 0]) ?_ 8 _ rfl; (with_reducible repeat (first | refine blk_drewN ?_ _ | refine blk_drew ?_ | refine blk_alloc ?_ _)); refine blk_put (cs := #[.int .i64 ((rd_T60 l1 x8_4).f0.f0), .int .i64 ((rd_T60 l1 x8_4).f0.f1), .int .i64 ((rd_T60 l1 x8_4).f0.f2), .int .i64 ((rd_T60 l1 x8_4).f0.f3), .int .i64 ((rd_T60 l1 x8_4).f0.f4), .int .i64 ((rd_T60 l1 x8_4).f1), .int .i64 ((rd_T60 l1 x8_4).f2), .int .i64 0, .int .i64 0]) ?_ 7 _ rfl; (with_reducible repeat (first | refine blk_drewN ?_ _ | refine blk_drew ?_ | refine blk_alloc ?_ _)); refine blk_put (cs := #[.int .i64 ((rd_T60 l1 x8_4).f0.f0), .int .i64 ((rd_T60 l1 x8_4).f0.f1), .int .i64 ((rd_T60 l1 x8_4).f0.f2), .int .i64 ((rd_T60 l1 x8_4).f0.f3), .int .i64 ((rd_T60 l1 x8_4).f0.f4), .int .i64 ((rd_T60 l1 x8_4).f1), .int .i64 0, .int .i64 0, .int .i64 0]) ?_ 6 _ rfl; (with_reducible repeat (first | refine blk_drewN ?_ _ | refine blk_drew ?_ | refine blk_alloc ?_ _)); refine blk_put (cs := #[.int .i64 ((rd_T60 l1 x8_4).f0.f0), .int .i64 ((rd_T60 l1 x8_4).f0.f1), .int .i64 ((rd_T60 l1 x8_4).f0.f2), .int .i64 ((rd_T60 l1 x8_4).f0.f3), .int .i64 ((rd_T60 l1 x8_4).f0.f4), .int .i64 0, .int .i64 0, .int .i64 0, .int .i64 0]) ?_ 5 _ rfl; (with_reducible repeat (first | refine blk_drewN ?_ _ | refine blk_drew ?_ | refine blk_alloc ?_ _)); refine blk_put (cs := #[.int .i64 ((rd_T60 l1 x8_4).f0.f0), .int .i64 ((rd_T60 l1 x8_4).f0.f1), .int .i64 ((rd_T60 l1 x8_4).f0.f2), .int .i64 ((rd_T60 l1 x8_4).f0.f3), .int .i64 0, .int .i64 0, .int .i64 0, .int .i64 0, .int .i64 0]) ?_ 4 _ rfl; (with_reducible repeat (first | refine blk_drewN ?_ _ | refine blk_drew ?_ | refine blk_alloc ?_ _)); refine blk_put (cs := #[.int .i64 ((rd_T60 l1 x8_4).f0.f0), .int .i64 ((rd_T60 l1 x8_4).f0.f1), .int .i64 ((rd_T60 l1 x8_4).f0.f2), .int .i64 0, .int .i64 0, .int .i64 0, .int .i64 0, .int .i64 0, .int .i64 0]) ?_ 3 _ rfl; (with_reducible repeat (first | refine blk_drewN ?_ _ | refine blk_drew ?_ | refine blk_alloc ?_ _)); refine blk_put (cs := #[.int .i64 ((rd_T60 l1 x8_4).f0.f0), .int .i64 ((rd_T60 l1 x8_4).f0.f1), .int .i64 0, .int .i64 0, .int .i64 0, .int .i64 0, .int .i64 0, .int .i64 0, .int .i64 0]) ?_ 2 _ rfl; (with_reducible repeat (first | refine blk_drewN ?_ _ | refine blk_drew ?_ | refine blk_alloc ?_ _)); refine blk_put (cs := #[.int .i64 ((rd_T60 l1 x8_4).f0.f0), .int .i64 0, .int .i64 0, .int .i64 0, .int .i64 0, .int .i64 0, .int .i64 0, .int .i64 0, .int .i64 0]) ?_ 1 _ rfl; (with_reducible repeat (first | refine blk_drewN ?_ _ | refine blk_drew ?_ | refine blk_alloc ?_ _)); refine blk_put (cs := #[.int .i64 0, .int .i64 0, .int .i64 0, .int .i64 0, .int .i64 0, .int .i64 0, .int .i64 0, .int .i64 0, .int .i64 0]) ?_ 0 _ rfl; (with_reducible repeat (first | refine blk_drewN ?_ _ | refine blk_drew ?_ | refine blk_alloc ?_ _)); exact BK370.out⟩, ⟨by repeat (first | (with_reducible first | exact HB.out | apply below_alloc | apply pw_below_drewN | apply below_drew1 | refine below_set ?_ GE364.out | refine below_set ?_ GE370.out) | exact HB.out)⟩⟩
                                · rw [if_neg c21] at H
                                  have c21b0 : (((rd_T60 l1 x8_4).f0.f2) == x6_1) = false := beq_eq_false_iff_ne.mpr c21
                                  have c21b1 : (((rd_T60 l1 x8_4).f0.f2) != x6_1) = true := bne_iff_ne.mpr c21
                                  (first | rw [c21b0] | (simp only [i64_w, i32_w]; rw [c21b0]) | skip)
                                  have H' := Aside0.mk H
                                  clear H
                                  have hnb24 := NB370_364.out
                                  have hnc24 := NB364_370.out
                                  have hcz25_0 : w18.cell? ⟨gb370, 0, none⟩ = some (.int .i64 0) := (blk_cell BK370.out 0).trans rfl
                                  have hcz25_1 : w18.cell? ⟨gb370, 1, none⟩ = some (.int .i64 0) := (blk_cell BK370.out 1).trans rfl
                                  have hcz25_2 : w18.cell? ⟨gb370, 2, none⟩ = some (.int .i64 0) := (blk_cell BK370.out 2).trans rfl
                                  have hcz25_3 : w18.cell? ⟨gb370, 3, none⟩ = some (.int .i64 0) := (blk_cell BK370.out 3).trans rfl
                                  have hcz25_4 : w18.cell? ⟨gb370, 4, none⟩ = some (.int .i64 0) := (blk_cell BK370.out 4).trans rfl
                                  have hcz25_5 : w18.cell? ⟨gb370, 5, none⟩ = some (.int .i64 0) := (blk_cell BK370.out 5).trans rfl
                                  have hcz25_6 : w18.cell? ⟨gb370, 6, none⟩ = some (.int .i64 0) := (blk_cell BK370.out 6).trans rfl
                                  have hcz25_7 : w18.cell? ⟨gb370, 7, none⟩ = some (.int .i64 0) := (blk_cell BK370.out 7).trans rfl
                                  have hcz25_8 : w18.cell? ⟨gb370, 8, none⟩ = some (.int .i64 0) := (blk_cell BK370.out 8).trans rfl
                                  have hfz25_0 := blk_frozen BK370.out 0
                                  have hfz25_1 := blk_frozen BK370.out 1
                                  have hfz25_2 := blk_frozen BK370.out 2
                                  have hfz25_3 := blk_frozen BK370.out 3
                                  have hfz25_4 := blk_frozen BK370.out 4
                                  have hfz25_5 := blk_frozen BK370.out 5
                                  have hfz25_6 := blk_frozen BK370.out 6
                                  have hfz25_7 := blk_frozen BK370.out 7
                                  have hfz25_8 := blk_frozen BK370.out 8
                                  go_wp2
                                  go_meet
                                  case rel => exact ⟨_, (true), (by first | rfl | (simp; done) | (simp [*]; done)), H', ⟨by have := HK1.out; have := HJ4.out; have := HJ11.out; have := HK4.out; first | omega | exact Nat.le_refl _⟩, ⟨by (with_reducible repeat (first | apply Kd.R_alloc | apply Kd.R_drewN | apply Kd.R_drew)); exact Kd.R_mono (Kd.R_far (p := ⟨gb370, 8, none⟩) (Kd.R_far (p := ⟨gb370, 7, none⟩) (Kd.R_far (p := ⟨gb370, 6, none⟩) (Kd.R_far (p := ⟨gb370, 5, none⟩) (Kd.R_far (p := ⟨gb370, 4, none⟩) (Kd.R_far (p := ⟨gb370, 3, none⟩) (Kd.R_far (p := ⟨gb370, 2, none⟩) (Kd.R_far (p := ⟨gb370, 1, none⟩) (Kd.R_far (p := ⟨gb370, 0, none⟩) (Kd.R_types HO_5.out BK370.out (by decide)) (fun _ hk => hk.2) (.int .i64 ((rd_T60 l1 x8_4).f0.f0))) (fun _ hk => hk.2) (.int .i64 ((rd_T60 l1 x8_4).f0.f1))) (fun _ hk => hk.2) (.int .i64 ((rd_T60 l1 x8_4).f0.f2))) (fun _ hk => hk.2) (.int .i64 ((rd_T60 l1 x8_4).f0.f3))) (fun _ hk => hk.2) (.int .i64 ((rd_T60 l1 x8_4).f0.f4))) (fun _ hk => hk.2) (.int .i64 ((rd_T60 l1 x8_4).f1))) (fun _ hk => hk.2) (.int .i64 ((rd_T60 l1 x8_4).f2))) (fun _ hk => hk.2) (.int .i64 ((rd_T60 l1 x8_4).f3.f0))) (fun _ hk => hk.2) (.int .i64 ((rd_T60 l1 x8_4).f3.f1))) (fun _ hk => hk.1)⟩, ⟨by (with_reducible repeat (first | refine blk_drewN ?_ _ | refine blk_drew ?_ | refine blk_alloc ?_ _)); refine blk_far ?_ NB364_370.out _; (with_reducible repeat (first | refine blk_drewN ?_ _ | refine blk_drew ?_ | refine blk_alloc ?_ _)); refine blk_far ?_ NB364_370.out _; (with_reducible repeat (first | refine blk_drewN ?_ _ | refine blk_drew ?_ | refine blk_alloc ?_ _)); refine blk_far ?_ NB364_370.out _; (with_reducible repeat (first | refine blk_drewN ?_ _ | refine blk_drew ?_ | refine blk_alloc ?_ _)); refine blk_far ?_ NB364_370.out _; (with_reducible repeat (first | refine blk_drewN ?_ _ | refine blk_drew ?_ | refine blk_alloc ?_ _)); refine blk_far ?_ NB364_370.out _; (with_reducible repeat (first | refine blk_drewN ?_ _ | refine blk_drew ?_ | refine blk_alloc ?_ _)); refine blk_far ?_ NB364_370.out _; (with_reducible repeat (first | refine blk_drewN ?_ _ | refine blk_drew ?_ | refine blk_alloc ?_ _)); refine blk_far ?_ NB364_370.out _; (with_reducible repeat (first | refine blk_drewN ?_ _ | refine blk_drew ?_ | refine blk_alloc ?_ _)); refine blk_far ?_ NB364_370.out _; (with_reducible repeat (first | refine blk_drewN ?_ _ | refine blk_drew ?_ | refine blk_alloc ?_ _)); refine blk_far ?_ NB364_370.out _; (with_reducible repeat (first | refine blk_drewN ?_ _ | refine blk_drew ?_ | refine blk_alloc ?_ _)); exact BK364.out⟩, ⟨by (with_reducible repeat (first | refine blk_drewN ?_ _ | refine blk_drew ?_ | refine blk_alloc ?_ _)); refine blk_put (cs := #[.int .i64 ((rd_T60 l1 x8_4).f0.f0), .int .i64 ((rd_T60 l1 x8_4).f0.f1), .int .i64 ((rd_T60 l1 x8_4).f0.f2), .int .i64 ((rd_T60 l1 x8_4).f0.f3), .int .i64 ((rd_T60 l1 x8_4).f0.f4), .int .i64 ((rd_T60 l1 x8_4).f1), .int .i64 ((rd_T60 l1 x8_4).f2), .int .i64 ((rd_T60 l1 x8_4).f3.f0), .int .i64 0]) ?_ 8 _ rfl; (with_reducible repeat (first | refine blk_drewN ?_ _ | refine blk_drew ?_ | refine blk_alloc ?_ _)); refine blk_put (cs := #[.int .i64 ((rd_T60 l1 x8_4).f0.f0), .int .i64 ((rd_T60 l1 x8_4).f0.f1), .int .i64 ((rd_T60 l1 x8_4).f0.f2), .int .i64 ((rd_T60 l1 x8_4).f0.f3), .int .i64 ((rd_T60 l1 x8_4).f0.f4), .int .i64 ((rd_T60 l1 x8_4).f1), .int .i64 ((rd_T60 l1 x8_4).f2), .int .i64 0, .int .i64 0]) ?_ 7 _ rfl; (with_reducible repeat (first | refine blk_drewN ?_ _ | refine blk_drew ?_ | refine blk_alloc ?_ _)); refine blk_put (cs := #[.int .i64 ((rd_T60 l1 x8_4).f0.f0), .int .i64 ((rd_T60 l1 x8_4).f0.f1), .int .i64 ((rd_T60 l1 x8_4).f0.f2), .int .i64 ((rd_T60 l1 x8_4).f0.f3), .int .i64 ((rd_T60 l1 x8_4).f0.f4), .int .i64 ((rd_T60 l1 x8_4).f1), .int .i64 0, .int .i64 0, .int .i64 0]) ?_ 6 _ rfl; (with_reducible repeat (first | refine blk_drewN ?_ _ | refine blk_drew ?_ | refine blk_alloc ?_ _)); refine blk_put (cs := #[.int .i64 ((rd_T60 l1 x8_4).f0.f0), .int .i64 ((rd_T60 l1 x8_4).f0.f1), .int .i64 ((rd_T60 l1 x8_4).f0.f2), .int .i64 ((rd_T60 l1 x8_4).f0.f3), .int .i64 ((rd_T60 l1 x8_4).f0.f4), .int .i64 0, .int .i64 0, .int .i64 0, .int .i64 0]) ?_ 5 _ rfl; (with_reducible repeat (first | refine blk_drewN ?_ _ | refine blk_drew ?_ | refine blk_alloc ?_ _)); refine blk_put (cs := #[.int .i64 ((rd_T60 l1 x8_4).f0.f0), .int .i64 ((rd_T60 l1 x8_4).f0.f1), .int .i64 ((rd_T60 l1 x8_4).f0.f2), .int .i64 ((rd_T60 l1 x8_4).f0.f3), .int .i64 0, .int .i64 0, .int .i64 0, .int .i64 0, .int .i64 0]) ?_ 4 _ rfl; (with_reducible repeat (first | refine blk_drewN ?_ _ | refine blk_drew ?_ | refine blk_alloc ?_ _)); refine blk_put (cs := #[.int .i64 ((rd_T60 l1 x8_4).f0.f0), .int .i64 ((rd_T60 l1 x8_4).f0.f1), .int .i64 ((rd_T60 l1 x8_4).f0.f2), .int .i64 0, .int .i64 0, .int .i64 0, .int .i64 0, .int .i64 0, .int .i64 0]) ?_ 3 _ rfl; (with_reducible repeat (first | refine blk_drewN ?_ _ | refine blk_drew ?_ | refine blk_alloc ?_ _)); refine blk_put (cs := #[.int .i64 ((rd_T60 l1 x8_4).f0.f0), .int .i64 ((rd_T60 l1 x8_4).f0.f1), .int .i64 0, .int .i64 0, .int .i64 0, .int .i64 0, .int .i64 0, .int .i64 0, .int .i64 0]) ?_ 2 _ rfl; (with_reducible repeat (first | refine blk_drewN ?_ _ | refine blk_drew ?_ | refine blk_alloc ?_ _)); refine blk_put (cs := #[.int .i64 ((rd_T60 l1 x8_4).f0.f0), .int .i64 0, .int .i64 0, .int .i64 0, .int .i64 0, .int .i64 0, .int .i64 0, .int .i64 0, .int .i64 0]) ?_ 1 _ rfl; (with_reducible repeat (first | refine blk_drewN ?_ _ | refine blk_drew ?_ | refine blk_alloc ?_ _)); refine blk_put (cs := #[.int .i64 0, .int .i64 0, .int .i64 0, .int .i64 0, .int .i64 0, .int .i64 0, .int .i64 0, .int .i64 0, .int .i64 0]) ?_ 0 _ rfl; (with_reducible repeat (first | refine blk_drewN ?_ _ | refine blk_drew ?_ | refine blk_alloc ?_ _)); exact BK370.out⟩, ⟨by repeat (first | (with_reducible first | exact HB.out | apply below_alloc | apply pw_below_drewN | apply below_drew1 | refine below_set ?_ GE364.out | refine below_set ?_ GE370.out) | exact HB.out)⟩⟩
                              case rest =>
                                clear HC17
                                try clear c1
                                try clear c2
                                try clear p2
                                try clear c3
                                try clear c3b0
                                try clear p3
                                try clear q3
                                try clear hx3
                                try clear c4
                                try clear c4b0
                                try clear c8
                                try clear c8b0
                                try clear c8b1
                                try clear c10
                                try clear c10b0
                                try clear c11
                                try clear c11b0
                                try clear c13
                                try clear c13b0
                                try clear c13b1
                                try clear c15
                                try clear c15b0
                                try clear c16
                                try clear c16b0
                                try clear c19
                                try clear c21
                                try clear c21b0
                                try clear c21b1
                                try clear c22
                                try clear c24
                                try clear hcz14_0
                                try clear hcz14_1
                                try clear hcz14_2
                                try clear hcz14_3
                                try clear hcz20_0
                                try clear hcz20_1
                                try clear hcz20_2
                                try clear hcz20_3
                                try clear hcz20_4
                                try clear hcz20_5
                                try clear hcz20_6
                                try clear hcz20_7
                                try clear hcz20_8
                                try clear hcz23_0
                                try clear hcz23_1
                                try clear hcz23_2
                                try clear hcz23_3
                                try clear hcz23_4
                                try clear hcz23_5
                                try clear hcz23_6
                                try clear hcz23_7
                                try clear hcz23_8
                                try clear hcz25_0
                                try clear hcz25_1
                                try clear hcz25_2
                                try clear hcz25_3
                                try clear hcz25_4
                                try clear hcz25_5
                                try clear hcz25_6
                                try clear hcz25_7
                                try clear hcz25_8
                                try clear hcz7_0
                                try clear hcz7_1
                                try clear hcz7_2
                                try clear hcz7_3
                                try clear hcz9_0
                                try clear hcz9_1
                                try clear hcz9_2
                                try clear hcz9_3
                                try clear hfz14_0
                                try clear hfz14_1
                                try clear hfz14_2
                                try clear hfz14_3
                                try clear hfz20_0
                                try clear hfz20_1
                                try clear hfz20_2
                                try clear hfz20_3
                                try clear hfz20_4
                                try clear hfz20_5
                                try clear hfz20_6
                                try clear hfz20_7
                                try clear hfz20_8
                                try clear hfz23_0
                                try clear hfz23_1
                                try clear hfz23_2
                                try clear hfz23_3
                                try clear hfz23_4
                                try clear hfz23_5
                                try clear hfz23_6
                                try clear hfz23_7
                                try clear hfz23_8
                                try clear hfz25_0
                                try clear hfz25_1
                                try clear hfz25_2
                                try clear hfz25_3
                                try clear hfz25_4
                                try clear hfz25_5
                                try clear hfz25_6
                                try clear hfz25_7
                                try clear hfz25_8
                                try clear hfz7_0
                                try clear hfz7_1
                                try clear hfz7_2
                                try clear hfz7_3
                                try clear hfz9_0
                                try clear hfz9_1
                                try clear hfz9_2
                                try clear hfz9_3
                                try clear hx365_0
                                try clear hx365_1
                                try clear hx366_0
                                try clear hx366_1
                                try clear hx367_0
                                try clear hx367_1
                                try clear hx368_0
                                try clear hx368_1
                                try clear hx369_0
                                try clear hx369_1
                                try clear hx369_2
                                try clear hx369_3
                                try clear hx369_4
                                try clear hx369_5
                                try clear hx369_6
                                try clear hx369_7
                                try clear hx369_8
                                try clear p2
                                try clear p3
                                try clear p365
                                try clear p366
                                try clear p367
                                try clear p368
                                try clear p369
                                try clear q3
                                try clear q365
                                try clear q366
                                try clear q367
                                try clear q368
                                try clear q369
                                obtain ⟨kq, x61_16, rfl, HA, HJ16, HO_5, BK364, BK370, HB⟩ := hcut
                                cases kq with
                                | zero => exact absurd HA.out (by simp [purflingref13_Bands.j4])
                                | succ kj16 =>
                                  have H := HA.out
                                  clear HA
                                  simp only [purflingref13_Bands.j4] at H
                                  by_cases c26 : x61_16 = true
                                  · subst c26
                                    have H1 : (purflingref13_Bands.l1 kj16 l0 l1 x5_1 x6_1 (wrap64 (x8_4 + 1)) x365000_4 x365001_4 x365002_4 x365003_4) = some r := by rw [if_pos rfl] at H; exact H
                                    clear H
                                    have H := H1
                                    clear H1
                                    have H' := Aside0.mk H
                                    clear H
                                    go_wp2
                                    go_roundg kj16
                                    case measure => have := HK1.out; have := HJ4.out; have := HJ11.out; have := HK4.out; have := HJ16.out; omega
                                    case rel => exact ⟨(wrap64 (x8_4 + 1)), (x365000_4), (x365001_4), (x365002_4), (x365003_4), (by first | rfl | (simp; done) | (simp [*]; done)), H', ⟨by have := HK1.out; have := HJ4.out; have := HJ11.out; have := HK4.out; have := HJ16.out; omega⟩, ⟨by (with_reducible repeat (first | apply Kd.R_alloc | apply Kd.R_drewN | apply Kd.R_drew)); exact HO_5.out⟩, ⟨by (with_reducible repeat (first | refine blk_drewN ?_ _ | refine blk_drew ?_ | refine blk_alloc ?_ _)); exact BK364.out⟩, ⟨by repeat (first | (with_reducible first | exact HB.out | apply below_alloc | apply pw_below_drewN | apply below_drew1 | refine below_set ?_ GE364.out | refine below_set ?_ GE370.out) | exact HB.out)⟩⟩
                                  · replace c26 := Bool.eq_false_iff.mpr c26
                                    subst c26
                                    have H1 : (if ((rd_T60 l1 x8_4).f3.f0) = 1 then (if ((rd_T60 l1 x8_4).f3.f0) = 2 then (purflingref13_Bands.l1 kj16 l0 l1 x5_1 x6_1 (wrap64 (x8_4 + 1)) (mx x365000_4 ((rd_T60 l1 x8_4).f1)) (mx x365001_4 ((rd_T60 l1 x8_4).f2)) (mx x365002_4 ((rd_T60 l1 x8_4).f3.f1)) (mx x365003_4 ((rd_T60 l1 x8_4).f3.f1))) else (purflingref13_Bands.l1 kj16 l0 l1 x5_1 x6_1 (wrap64 (x8_4 + 1)) (mx x365000_4 ((rd_T60 l1 x8_4).f1)) (mx x365001_4 ((rd_T60 l1 x8_4).f2)) x365002_4 (mx x365003_4 ((rd_T60 l1 x8_4).f3.f1)))) else (if ((rd_T60 l1 x8_4).f3.f0) = 2 then (purflingref13_Bands.l1 kj16 l0 l1 x5_1 x6_1 (wrap64 (x8_4 + 1)) (mx x365000_4 ((rd_T60 l1 x8_4).f1)) (mx x365001_4 ((rd_T60 l1 x8_4).f2)) (mx x365002_4 ((rd_T60 l1 x8_4).f3.f1)) x365003_4) else (purflingref13_Bands.l1 kj16 l0 l1 x5_1 x6_1 (wrap64 (x8_4 + 1)) (mx x365000_4 ((rd_T60 l1 x8_4).f1)) (mx x365001_4 ((rd_T60 l1 x8_4).f2)) x365002_4 x365003_4))) = some r := by rw [if_neg (show ¬ (false = true) by decide)] at H; exact H
                                    clear H
                                    have H := H1
                                    clear H1
                                    obtain ⟨ji27, hji27⟩ : ∃ j_ : Int, (mx x365000_4 ((rd_T60 l1 x8_4).f1)) = j_ := ⟨_, rfl⟩
                                    replace H : (if ((rd_T60 l1 x8_4).f3.f0) = 1 then (if ((rd_T60 l1 x8_4).f3.f0) = 2 then (purflingref13_Bands.l1 kj16 l0 l1 x5_1 x6_1 (wrap64 (x8_4 + 1)) ji27 (mx x365001_4 ((rd_T60 l1 x8_4).f2)) (mx x365002_4 ((rd_T60 l1 x8_4).f3.f1)) (mx x365003_4 ((rd_T60 l1 x8_4).f3.f1))) else (purflingref13_Bands.l1 kj16 l0 l1 x5_1 x6_1 (wrap64 (x8_4 + 1)) ji27 (mx x365001_4 ((rd_T60 l1 x8_4).f2)) x365002_4 (mx x365003_4 ((rd_T60 l1 x8_4).f3.f1)))) else (if ((rd_T60 l1 x8_4).f3.f0) = 2 then (purflingref13_Bands.l1 kj16 l0 l1 x5_1 x6_1 (wrap64 (x8_4 + 1)) ji27 (mx x365001_4 ((rd_T60 l1 x8_4).f2)) (mx x365002_4 ((rd_T60 l1 x8_4).f3.f1)) x365003_4) else (purflingref13_Bands.l1 kj16 l0 l1 x5_1 x6_1 (wrap64 (x8_4 + 1)) ji27 (mx x365001_4 ((rd_T60 l1 x8_4).f2)) x365002_4 x365003_4))) = some r := by first | (rw [hji27] at H; exact H) | (simp only [hji27] at H ⊢; exact H)
                                    have hji27_ : (if x365000_4 < ((rd_T60 l1 x8_4).f1) then ((rd_T60 l1 x8_4).f1) else x365000_4) = ji27 := hji27
                                    obtain ⟨ji28, hji28⟩ : ∃ j_ : Int, (mx x365001_4 ((rd_T60 l1 x8_4).f2)) = j_ := ⟨_, rfl⟩
                                    replace H : (if ((rd_T60 l1 x8_4).f3.f0) = 1 then (if ((rd_T60 l1 x8_4).f3.f0) = 2 then (purflingref13_Bands.l1 kj16 l0 l1 x5_1 x6_1 (wrap64 (x8_4 + 1)) ji27 ji28 (mx x365002_4 ((rd_T60 l1 x8_4).f3.f1)) (mx x365003_4 ((rd_T60 l1 x8_4).f3.f1))) else (purflingref13_Bands.l1 kj16 l0 l1 x5_1 x6_1 (wrap64 (x8_4 + 1)) ji27 ji28 x365002_4 (mx x365003_4 ((rd_T60 l1 x8_4).f3.f1)))) else (if ((rd_T60 l1 x8_4).f3.f0) = 2 then (purflingref13_Bands.l1 kj16 l0 l1 x5_1 x6_1 (wrap64 (x8_4 + 1)) ji27 ji28 (mx x365002_4 ((rd_T60 l1 x8_4).f3.f1)) x365003_4) else (purflingref13_Bands.l1 kj16 l0 l1 x5_1 x6_1 (wrap64 (x8_4 + 1)) ji27 ji28 x365002_4 x365003_4))) = some r := by first | (rw [hji28] at H; exact H) | (simp only [hji28] at H ⊢; exact H)
                                    have hji28_ : (if x365001_4 < ((rd_T60 l1 x8_4).f2) then ((rd_T60 l1 x8_4).f2) else x365001_4) = ji28 := hji28
                                    by_cases c29 : ((rd_T60 l1 x8_4).f3.f0) = 1
                                    · rw [if_pos c29] at H
                                      have c29b0 : (((rd_T60 l1 x8_4).f3.f0) == 1) = true := beq_iff_eq.mpr c29
                                      have c29b1 : (((rd_T60 l1 x8_4).f3.f0) != 1) = false := bne_eq_false_iff_eq.mpr c29
                                      clear c29
                                      obtain ⟨ji30, hji30⟩ : ∃ j_ : Int, (mx x365003_4 ((rd_T60 l1 x8_4).f3.f1)) = j_ := ⟨_, rfl⟩
                                      replace H : (if ((rd_T60 l1 x8_4).f3.f0) = 2 then (purflingref13_Bands.l1 kj16 l0 l1 x5_1 x6_1 (wrap64 (x8_4 + 1)) ji27 ji28 (mx x365002_4 ((rd_T60 l1 x8_4).f3.f1)) ji30) else (purflingref13_Bands.l1 kj16 l0 l1 x5_1 x6_1 (wrap64 (x8_4 + 1)) ji27 ji28 x365002_4 ji30)) = some r := by first | (rw [hji30] at H; exact H) | (simp only [hji30] at H ⊢; exact H)
                                      have hji30_ : (if x365003_4 < ((rd_T60 l1 x8_4).f3.f1) then ((rd_T60 l1 x8_4).f3.f1) else x365003_4) = ji30 := hji30
                                      by_cases c31 : ((rd_T60 l1 x8_4).f3.f0) = 2
                                      · rw [if_pos c31] at H
                                        have c31b0 : (((rd_T60 l1 x8_4).f3.f0) == 2) = true := beq_iff_eq.mpr c31
                                        have c31b1 : (((rd_T60 l1 x8_4).f3.f0) != 2) = false := bne_eq_false_iff_eq.mpr c31
                                        clear c31
                                        obtain ⟨ji32, hji32⟩ : ∃ j_ : Int, (mx x365002_4 ((rd_T60 l1 x8_4).f3.f1)) = j_ := ⟨_, rfl⟩
                                        replace H : (purflingref13_Bands.l1 kj16 l0 l1 x5_1 x6_1 (wrap64 (x8_4 + 1)) ji27 ji28 ji32 ji30) = some r := by first | (rw [hji32] at H; exact H) | (simp only [hji32] at H ⊢; exact H)
                                        have hji32_ : (if x365002_4 < ((rd_T60 l1 x8_4).f3.f1) then ((rd_T60 l1 x8_4).f3.f1) else x365002_4) = ji32 := hji32
                                        have H' := Aside0.mk H
                                        clear H
                                        have hnb33 := NB364_370.out
                                        have hnc33 := NB370_364.out
                                        have hcz34_0 : wc.cell? ⟨gb364, 0, none⟩ = some (.int .i64 x365000_4) := (blk_cell BK364.out 0).trans rfl
                                        have hcz34_1 : wc.cell? ⟨gb364, 1, none⟩ = some (.int .i64 x365001_4) := (blk_cell BK364.out 1).trans rfl
                                        have hcz34_2 : wc.cell? ⟨gb364, 2, none⟩ = some (.int .i64 x365002_4) := (blk_cell BK364.out 2).trans rfl
                                        have hcz34_3 : wc.cell? ⟨gb364, 3, none⟩ = some (.int .i64 x365003_4) := (blk_cell BK364.out 3).trans rfl
                                        have hfz34_0 := blk_frozen BK364.out 0
                                        have hfz34_1 := blk_frozen BK364.out 1
                                        have hfz34_2 := blk_frozen BK364.out 2
                                        have hfz34_3 := blk_frozen BK364.out 3
                                        have hcz35_0 : wc.cell? ⟨gb370, 0, none⟩ = some (.int .i64 ((rd_T60 l1 x8_4).f0.f0)) := (blk_cell BK370.out 0).trans rfl
                                        have hcz35_1 : wc.cell? ⟨gb370, 1, none⟩ = some (.int .i64 ((rd_T60 l1 x8_4).f0.f1)) := (blk_cell BK370.out 1).trans rfl
                                        have hcz35_2 : wc.cell? ⟨gb370, 2, none⟩ = some (.int .i64 ((rd_T60 l1 x8_4).f0.f2)) := (blk_cell BK370.out 2).trans rfl
                                        have hcz35_3 : wc.cell? ⟨gb370, 3, none⟩ = some (.int .i64 ((rd_T60 l1 x8_4).f0.f3)) := (blk_cell BK370.out 3).trans rfl
                                        have hcz35_4 : wc.cell? ⟨gb370, 4, none⟩ = some (.int .i64 ((rd_T60 l1 x8_4).f0.f4)) := (blk_cell BK370.out 4).trans rfl
                                        have hcz35_5 : wc.cell? ⟨gb370, 5, none⟩ = some (.int .i64 ((rd_T60 l1 x8_4).f1)) := (blk_cell BK370.out 5).trans rfl
                                        have hcz35_6 : wc.cell? ⟨gb370, 6, none⟩ = some (.int .i64 ((rd_T60 l1 x8_4).f2)) := (blk_cell BK370.out 6).trans rfl
                                        have hcz35_7 : wc.cell? ⟨gb370, 7, none⟩ = some (.int .i64 ((rd_T60 l1 x8_4).f3.f0)) := (blk_cell BK370.out 7).trans rfl
                                        have hcz35_8 : wc.cell? ⟨gb370, 8, none⟩ = some (.int .i64 ((rd_T60 l1 x8_4).f3.f1)) := (blk_cell BK370.out 8).trans rfl
                                        have hfz35_0 := blk_frozen BK370.out 0
                                        have hfz35_1 := blk_frozen BK370.out 1
                                        have hfz35_2 := blk_frozen BK370.out 2
                                        have hfz35_3 := blk_frozen BK370.out 3
                                        have hfz35_4 := blk_frozen BK370.out 4
                                        have hfz35_5 := blk_frozen BK370.out 5
                                        have hfz35_6 := blk_frozen BK370.out 6
                                        have hfz35_7 := blk_frozen BK370.out 7
                                        have hfz35_8 := blk_frozen BK370.out 8
                                        go_wp2
                                        go_roundg kj16
                                        case measure => have := HK1.out; have := HJ4.out; have := HJ11.out; have := HK4.out; have := HJ16.out; omega
                                        case rel => exact ⟨(wrap64 (x8_4 + 1)), (ji27), (ji28), (ji32), (ji30), (by first | rfl | (simp; done) | (simp [*]; done)), H', ⟨by have := HK1.out; have := HJ4.out; have := HJ11.out; have := HK4.out; have := HJ16.out; omega⟩, ⟨by (with_reducible repeat (first | apply Kd.R_alloc | apply Kd.R_drewN | apply Kd.R_drew)); exact Kd.R_mono (Kd.R_far (p := ⟨gb364, 2, none⟩) (Kd.R_far (p := ⟨gb364, 3, none⟩) (Kd.R_far (p := ⟨gb364, 1, none⟩) (Kd.R_far (p := ⟨gb364, 0, none⟩) (Kd.R_mono HO_5.out (fun k_ hk => (⟨hk, hk⟩ : _ ∧ k_ ≠ gb364))) (fun _ hk => hk.2) (.int .i64 ji27)) (fun _ hk => hk.2) (.int .i64 ji28)) (fun _ hk => hk.2) (.int .i64 ji30)) (fun _ hk => hk.2) (.int .i64 ji32)) (fun _ hk => hk.1)⟩, ⟨by (with_reducible repeat (first | refine blk_drewN ?_ _ | refine blk_drew ?_ | refine blk_alloc ?_ _)); refine blk_put (cs := #[.int .i64 ji27, .int .i64 ji28, .int .i64 x365002_4, .int .i64 ji30]) ?_ 2 _ rfl; (with_reducible repeat (first | refine blk_drewN ?_ _ | refine blk_drew ?_ | refine blk_alloc ?_ _)); refine blk_put (cs := #[.int .i64 ji27, .int .i64 ji28, .int .i64 x365002_4, .int .i64 x365003_4]) ?_ 3 _ rfl; (with_reducible repeat (first | refine blk_drewN ?_ _ | refine blk_drew ?_ | refine blk_alloc ?_ _)); refine blk_put (cs := #[.int .i64 ji27, .int .i64 x365001_4, .int .i64 x365002_4, .int .i64 x365003_4]) ?_ 1 _ rfl; (with_reducible repeat (first | refine blk_drewN ?_ _ | refine blk_drew ?_ | refine blk_alloc ?_ _)); refine blk_put (cs := #[.int .i64 x365000_4, .int .i64 x365001_4, .int .i64 x365002_4, .int .i64 x365003_4]) ?_ 0 _ rfl; (with_reducible repeat (first | refine blk_drewN ?_ _ | refine blk_drew ?_ | refine blk_alloc ?_ _)); exact BK364.out⟩, ⟨by repeat (first | (with_reducible first | exact HB.out | apply below_alloc | apply pw_below_drewN | apply below_drew1 | refine below_set ?_ GE364.out | refine below_set ?_ GE370.out) | exact HB.out)⟩⟩
                                      · rw [if_neg c31] at H
                                        have c31b0 : (((rd_T60 l1 x8_4).f3.f0) == 2) = false := beq_eq_false_iff_ne.mpr c31
                                        have c31b1 : (((rd_T60 l1 x8_4).f3.f0) != 2) = true := bne_iff_ne.mpr c31
                                        have H' := Aside0.mk H
                                        clear H
                                        have hnb36 := NB364_370.out
                                        have hnc36 := NB370_364.out
                                        have hcz37_0 : wc.cell? ⟨gb364, 0, none⟩ = some (.int .i64 x365000_4) := (blk_cell BK364.out 0).trans rfl
                                        have hcz37_1 : wc.cell? ⟨gb364, 1, none⟩ = some (.int .i64 x365001_4) := (blk_cell BK364.out 1).trans rfl
                                        have hcz37_2 : wc.cell? ⟨gb364, 2, none⟩ = some (.int .i64 x365002_4) := (blk_cell BK364.out 2).trans rfl
                                        have hcz37_3 : wc.cell? ⟨gb364, 3, none⟩ = some (.int .i64 x365003_4) := (blk_cell BK364.out 3).trans rfl
                                        have hfz37_0 := blk_frozen BK364.out 0
                                        have hfz37_1 := blk_frozen BK364.out 1
                                        have hfz37_2 := blk_frozen BK364.out 2
                                        have hfz37_3 := blk_frozen BK364.out 3
                                        have hcz38_0 : wc.cell? ⟨gb370, 0, none⟩ = some (.int .i64 ((rd_T60 l1 x8_4).f0.f0)) := (blk_cell BK370.out 0).trans rfl
                                        have hcz38_1 : wc.cell? ⟨gb370, 1, none⟩ = some (.int .i64 ((rd_T60 l1 x8_4).f0.f1)) := (blk_cell BK370.out 1).trans rfl
                                        have hcz38_2 : wc.cell? ⟨gb370, 2, none⟩ = some (.int .i64 ((rd_T60 l1 x8_4).f0.f2)) := (blk_cell BK370.out 2).trans rfl
                                        have hcz38_3 : wc.cell? ⟨gb370, 3, none⟩ = some (.int .i64 ((rd_T60 l1 x8_4).f0.f3)) := (blk_cell BK370.out 3).trans rfl
                                        have hcz38_4 : wc.cell? ⟨gb370, 4, none⟩ = some (.int .i64 ((rd_T60 l1 x8_4).f0.f4)) := (blk_cell BK370.out 4).trans rfl
                                        have hcz38_5 : wc.cell? ⟨gb370, 5, none⟩ = some (.int .i64 ((rd_T60 l1 x8_4).f1)) := (blk_cell BK370.out 5).trans rfl
                                        have hcz38_6 : wc.cell? ⟨gb370, 6, none⟩ = some (.int .i64 ((rd_T60 l1 x8_4).f2)) := (blk_cell BK370.out 6).trans rfl
                                        have hcz38_7 : wc.cell? ⟨gb370, 7, none⟩ = some (.int .i64 ((rd_T60 l1 x8_4).f3.f0)) := (blk_cell BK370.out 7).trans rfl
                                        have hcz38_8 : wc.cell? ⟨gb370, 8, none⟩ = some (.int .i64 ((rd_T60 l1 x8_4).f3.f1)) := (blk_cell BK370.out 8).trans rfl
                                        have hfz38_0 := blk_frozen BK370.out 0
                                        have hfz38_1 := blk_frozen BK370.out 1
                                        have hfz38_2 := blk_frozen BK370.out 2
                                        have hfz38_3 := blk_frozen BK370.out 3
                                        have hfz38_4 := blk_frozen BK370.out 4
                                        have hfz38_5 := blk_frozen BK370.out 5
                                        have hfz38_6 := blk_frozen BK370.out 6
                                        have hfz38_7 := blk_frozen BK370.out 7
                                        have hfz38_8 := blk_frozen BK370.out 8
                                        go_wp2
                                        go_roundg kj16
                                        case measure => have := HK1.out; have := HJ4.out; have := HJ11.out; have := HK4.out; have := HJ16.out; omega
                                        case rel => exact ⟨(wrap64 (x8_4 + 1)), (ji27), (ji28), (x365002_4), (ji30), (by first | rfl | (simp; done) | (simp [*]; done)), H', ⟨by have := HK1.out; have := HJ4.out; have := HJ11.out; have := HK4.out; have := HJ16.out; omega⟩, ⟨by (with_reducible repeat (first | apply Kd.R_alloc | apply Kd.R_drewN | apply Kd.R_drew)); exact Kd.R_mono (Kd.R_far (p := ⟨gb364, 3, none⟩) (Kd.R_far (p := ⟨gb364, 1, none⟩) (Kd.R_far (p := ⟨gb364, 0, none⟩) (Kd.R_mono HO_5.out (fun k_ hk => (⟨hk, hk⟩ : _ ∧ k_ ≠ gb364))) (fun _ hk => hk.2) (.int .i64 ji27)) (fun _ hk => hk.2) (.int .i64 ji28)) (fun _ hk => hk.2) (.int .i64 ji30)) (fun _ hk => hk.1)⟩, ⟨by (with_reducible repeat (first | refine blk_drewN ?_ _ | refine blk_drew ?_ | refine blk_alloc ?_ _)); refine blk_put (cs := #[.int .i64 ji27, .int .i64 ji28, .int .i64 x365002_4, .int .i64 x365003_4]) ?_ 3 _ rfl; (with_reducible repeat (first | refine blk_drewN ?_ _ | refine blk_drew ?_ | refine blk_alloc ?_ _)); refine blk_put (cs := #[.int .i64 ji27, .int .i64 x365001_4, .int .i64 x365002_4, .int .i64 x365003_4]) ?_ 1 _ rfl; (with_reducible repeat (first | refine blk_drewN ?_ _ | refine blk_drew ?_ | refine blk_alloc ?_ _)); refine blk_put (cs := #[.int .i64 x365000_4, .int .i64 x365001_4, .int .i64 x365002_4, .int .i64 x365003_4]) ?_ 0 _ rfl; (with_reducible repeat (first | refine blk_drewN ?_ _ | refine blk_drew ?_ | refine blk_alloc ?_ _)); exact BK364.out⟩, ⟨by repeat (first | (with_reducible first | exact HB.out | apply below_alloc | apply pw_below_drewN | apply below_drew1 | refine below_set ?_ GE364.out | refine below_set ?_ GE370.out) | exact HB.out)⟩⟩
                                    · rw [if_neg c29] at H
                                      have c29b0 : (((rd_T60 l1 x8_4).f3.f0) == 1) = false := beq_eq_false_iff_ne.mpr c29
                                      have c29b1 : (((rd_T60 l1 x8_4).f3.f0) != 1) = true := bne_iff_ne.mpr c29
                                      by_cases c39 : ((rd_T60 l1 x8_4).f3.f0) = 2
                                      · rw [if_pos c39] at H
                                        have c39b0 : (((rd_T60 l1 x8_4).f3.f0) == 2) = true := beq_iff_eq.mpr c39
                                        have c39b1 : (((rd_T60 l1 x8_4).f3.f0) != 2) = false := bne_eq_false_iff_eq.mpr c39
                                        clear c39
                                        obtain ⟨ji40, hji40⟩ : ∃ j_ : Int, (mx x365002_4 ((rd_T60 l1 x8_4).f3.f1)) = j_ := ⟨_, rfl⟩
                                        replace H : (purflingref13_Bands.l1 kj16 l0 l1 x5_1 x6_1 (wrap64 (x8_4 + 1)) ji27 ji28 ji40 x365003_4) = some r := by first | (rw [hji40] at H; exact H) | (simp only [hji40] at H ⊢; exact H)
                                        have hji40_ : (if x365002_4 < ((rd_T60 l1 x8_4).f3.f1) then ((rd_T60 l1 x8_4).f3.f1) else x365002_4) = ji40 := hji40
                                        have H' := Aside0.mk H
                                        clear H
                                        have hnb41 := NB364_370.out
                                        have hnc41 := NB370_364.out
                                        have hcz42_0 : wc.cell? ⟨gb364, 0, none⟩ = some (.int .i64 x365000_4) := (blk_cell BK364.out 0).trans rfl
                                        have hcz42_1 : wc.cell? ⟨gb364, 1, none⟩ = some (.int .i64 x365001_4) := (blk_cell BK364.out 1).trans rfl
                                        have hcz42_2 : wc.cell? ⟨gb364, 2, none⟩ = some (.int .i64 x365002_4) := (blk_cell BK364.out 2).trans rfl
                                        have hcz42_3 : wc.cell? ⟨gb364, 3, none⟩ = some (.int .i64 x365003_4) := (blk_cell BK364.out 3).trans rfl
                                        have hfz42_0 := blk_frozen BK364.out 0
                                        have hfz42_1 := blk_frozen BK364.out 1
                                        have hfz42_2 := blk_frozen BK364.out 2
                                        have hfz42_3 := blk_frozen BK364.out 3
                                        have hcz43_0 : wc.cell? ⟨gb370, 0, none⟩ = some (.int .i64 ((rd_T60 l1 x8_4).f0.f0)) := (blk_cell BK370.out 0).trans rfl
                                        have hcz43_1 : wc.cell? ⟨gb370, 1, none⟩ = some (.int .i64 ((rd_T60 l1 x8_4).f0.f1)) := (blk_cell BK370.out 1).trans rfl
                                        have hcz43_2 : wc.cell? ⟨gb370, 2, none⟩ = some (.int .i64 ((rd_T60 l1 x8_4).f0.f2)) := (blk_cell BK370.out 2).trans rfl
                                        have hcz43_3 : wc.cell? ⟨gb370, 3, none⟩ = some (.int .i64 ((rd_T60 l1 x8_4).f0.f3)) := (blk_cell BK370.out 3).trans rfl
                                        have hcz43_4 : wc.cell? ⟨gb370, 4, none⟩ = some (.int .i64 ((rd_T60 l1 x8_4).f0.f4)) := (blk_cell BK370.out 4).trans rfl
                                        have hcz43_5 : wc.cell? ⟨gb370, 5, none⟩ = some (.int .i64 ((rd_T60 l1 x8_4).f1)) := (blk_cell BK370.out 5).trans rfl
                                        have hcz43_6 : wc.cell? ⟨gb370, 6, none⟩ = some (.int .i64 ((rd_T60 l1 x8_4).f2)) := (blk_cell BK370.out 6).trans rfl
                                        have hcz43_7 : wc.cell? ⟨gb370, 7, none⟩ = some (.int .i64 ((rd_T60 l1 x8_4).f3.f0)) := (blk_cell BK370.out 7).trans rfl
                                        have hcz43_8 : wc.cell? ⟨gb370, 8, none⟩ = some (.int .i64 ((rd_T60 l1 x8_4).f3.f1)) := (blk_cell BK370.out 8).trans rfl
                                        have hfz43_0 := blk_frozen BK370.out 0
                                        have hfz43_1 := blk_frozen BK370.out 1
                                        have hfz43_2 := blk_frozen BK370.out 2
                                        have hfz43_3 := blk_frozen BK370.out 3
                                        have hfz43_4 := blk_frozen BK370.out 4
                                        have hfz43_5 := blk_frozen BK370.out 5
                                        have hfz43_6 := blk_frozen BK370.out 6
                                        have hfz43_7 := blk_frozen BK370.out 7
                                        have hfz43_8 := blk_frozen BK370.out 8
                                        go_wp2
                                        go_roundg kj16
                                        case measure => have := HK1.out; have := HJ4.out; have := HJ11.out; have := HK4.out; have := HJ16.out; omega
                                        case rel => exact ⟨(wrap64 (x8_4 + 1)), (ji27), (ji28), (ji40), (x365003_4), (by first | rfl | (simp; done) | (simp [*]; done)), H', ⟨by have := HK1.out; have := HJ4.out; have := HJ11.out; have := HK4.out; have := HJ16.out; omega⟩, ⟨by (with_reducible repeat (first | apply Kd.R_alloc | apply Kd.R_drewN | apply Kd.R_drew)); exact Kd.R_mono (Kd.R_far (p := ⟨gb364, 2, none⟩) (Kd.R_far (p := ⟨gb364, 1, none⟩) (Kd.R_far (p := ⟨gb364, 0, none⟩) (Kd.R_mono HO_5.out (fun k_ hk => (⟨hk, hk⟩ : _ ∧ k_ ≠ gb364))) (fun _ hk => hk.2) (.int .i64 ji27)) (fun _ hk => hk.2) (.int .i64 ji28)) (fun _ hk => hk.2) (.int .i64 ji40)) (fun _ hk => hk.1)⟩, ⟨by (with_reducible repeat (first | refine blk_drewN ?_ _ | refine blk_drew ?_ | refine blk_alloc ?_ _)); refine blk_put (cs := #[.int .i64 ji27, .int .i64 ji28, .int .i64 x365002_4, .int .i64 x365003_4]) ?_ 2 _ rfl; (with_reducible repeat (first | refine blk_drewN ?_ _ | refine blk_drew ?_ | refine blk_alloc ?_ _)); refine blk_put (cs := #[.int .i64 ji27, .int .i64 x365001_4, .int .i64 x365002_4, .int .i64 x365003_4]) ?_ 1 _ rfl; (with_reducible repeat (first | refine blk_drewN ?_ _ | refine blk_drew ?_ | refine blk_alloc ?_ _)); refine blk_put (cs := #[.int .i64 x365000_4, .int .i64 x365001_4, .int .i64 x365002_4, .int .i64 x365003_4]) ?_ 0 _ rfl; (with_reducible repeat (first | refine blk_drewN ?_ _ | refine blk_drew ?_ | refine blk_alloc ?_ _)); exact BK364.out⟩, ⟨by repeat (first | (with_reducible first | exact HB.out | apply below_alloc | apply pw_below_drewN | apply below_drew1 | refine below_set ?_ GE364.out | refine below_set ?_ GE370.out) | exact HB.out)⟩⟩
                                      · rw [if_neg c39] at H
                                        have c39b0 : (((rd_T60 l1 x8_4).f3.f0) == 2) = false := beq_eq_false_iff_ne.mpr c39
                                        have c39b1 : (((rd_T60 l1 x8_4).f3.f0) != 2) = true := bne_iff_ne.mpr c39
                                        have H' := Aside0.mk H
                                        clear H
                                        have hnb44 := NB364_370.out
                                        have hnc44 := NB370_364.out
                                        have hcz45_0 : wc.cell? ⟨gb364, 0, none⟩ = some (.int .i64 x365000_4) := (blk_cell BK364.out 0).trans rfl
                                        have hcz45_1 : wc.cell? ⟨gb364, 1, none⟩ = some (.int .i64 x365001_4) := (blk_cell BK364.out 1).trans rfl
                                        have hcz45_2 : wc.cell? ⟨gb364, 2, none⟩ = some (.int .i64 x365002_4) := (blk_cell BK364.out 2).trans rfl
                                        have hcz45_3 : wc.cell? ⟨gb364, 3, none⟩ = some (.int .i64 x365003_4) := (blk_cell BK364.out 3).trans rfl
                                        have hfz45_0 := blk_frozen BK364.out 0
                                        have hfz45_1 := blk_frozen BK364.out 1
                                        have hfz45_2 := blk_frozen BK364.out 2
                                        have hfz45_3 := blk_frozen BK364.out 3
                                        have hcz46_0 : wc.cell? ⟨gb370, 0, none⟩ = some (.int .i64 ((rd_T60 l1 x8_4).f0.f0)) := (blk_cell BK370.out 0).trans rfl
                                        have hcz46_1 : wc.cell? ⟨gb370, 1, none⟩ = some (.int .i64 ((rd_T60 l1 x8_4).f0.f1)) := (blk_cell BK370.out 1).trans rfl
                                        have hcz46_2 : wc.cell? ⟨gb370, 2, none⟩ = some (.int .i64 ((rd_T60 l1 x8_4).f0.f2)) := (blk_cell BK370.out 2).trans rfl
                                        have hcz46_3 : wc.cell? ⟨gb370, 3, none⟩ = some (.int .i64 ((rd_T60 l1 x8_4).f0.f3)) := (blk_cell BK370.out 3).trans rfl
                                        have hcz46_4 : wc.cell? ⟨gb370, 4, none⟩ = some (.int .i64 ((rd_T60 l1 x8_4).f0.f4)) := (blk_cell BK370.out 4).trans rfl
                                        have hcz46_5 : wc.cell? ⟨gb370, 5, none⟩ = some (.int .i64 ((rd_T60 l1 x8_4).f1)) := (blk_cell BK370.out 5).trans rfl
                                        have hcz46_6 : wc.cell? ⟨gb370, 6, none⟩ = some (.int .i64 ((rd_T60 l1 x8_4).f2)) := (blk_cell BK370.out 6).trans rfl
                                        have hcz46_7 : wc.cell? ⟨gb370, 7, none⟩ = some (.int .i64 ((rd_T60 l1 x8_4).f3.f0)) := (blk_cell BK370.out 7).trans rfl
                                        have hcz46_8 : wc.cell? ⟨gb370, 8, none⟩ = some (.int .i64 ((rd_T60 l1 x8_4).f3.f1)) := (blk_cell BK370.out 8).trans rfl
                                        have hfz46_0 := blk_frozen BK370.out 0
                                        have hfz46_1 := blk_frozen BK370.out 1
                                        have hfz46_2 := blk_frozen BK370.out 2
                                        have hfz46_3 := blk_frozen BK370.out 3
                                        have hfz46_4 := blk_frozen BK370.out 4
                                        have hfz46_5 := blk_frozen BK370.out 5
                                        have hfz46_6 := blk_frozen BK370.out 6
                                        have hfz46_7 := blk_frozen BK370.out 7
                                        have hfz46_8 := blk_frozen BK370.out 8
                                        go_wp2
                                        go_roundg kj16
                                        case measure => have := HK1.out; have := HJ4.out; have := HJ11.out; have := HK4.out; have := HJ16.out; omega
                                        case rel => exact ⟨(wrap64 (x8_4 + 1)), (ji27), (ji28), (x365002_4), (x365003_4), (by first | rfl | (simp; done) | (simp [*]; done)), H', ⟨by have := HK1.out; have := HJ4.out; have := HJ11.out; have := HK4.out; have := HJ16.out; omega⟩, ⟨by (with_reducible repeat (first | apply Kd.R_alloc | apply Kd.R_drewN | apply Kd.R_drew)); exact Kd.R_mono (Kd.R_far (p := ⟨gb364, 1, none⟩) (Kd.R_far (p := ⟨gb364, 0, none⟩) (Kd.R_mono HO_5.out (fun k_ hk => (⟨hk, hk⟩ : _ ∧ k_ ≠ gb364))) (fun _ hk => hk.2) (.int .i64 ji27)) (fun _ hk => hk.2) (.int .i64 ji28)) (fun _ hk => hk.1)⟩, ⟨by (with_reducible repeat (first | refine blk_drewN ?_ _ | refine blk_drew ?_ | refine blk_alloc ?_ _)); refine blk_put (cs := #[.int .i64 ji27, .int .i64 x365001_4, .int .i64 x365002_4, .int .i64 x365003_4]) ?_ 1 _ rfl; (with_reducible repeat (first | refine blk_drewN ?_ _ | refine blk_drew ?_ | refine blk_alloc ?_ _)); refine blk_put (cs := #[.int .i64 x365000_4, .int .i64 x365001_4, .int .i64 x365002_4, .int .i64 x365003_4]) ?_ 0 _ rfl; (with_reducible repeat (first | refine blk_drewN ?_ _ | refine blk_drew ?_ | refine blk_alloc ?_ _)); exact BK364.out⟩, ⟨by repeat (first | (with_reducible first | exact HB.out | apply below_alloc | apply pw_below_drewN | apply below_drew1 | refine below_set ?_ GE364.out | refine below_set ?_ GE370.out) | exact HB.out)⟩⟩
                            · rw [if_neg c16] at H
                              exact absurd H (by simp)
                          · rw [if_neg c15] at H
                            have c15b0 : decide (x8_4 < (l1.length : Int)) = false := decide_eq_false c15
                            clear c15
                            by_cases c47 : x365002_4 ≥ 0
                            · rw [if_pos c47] at H
                              have c47b0 : decide (0 ≤ x365002_4) = true := decide_eq_true c47
                              clear c47
                              by_cases c48 : x5_1.length < 4398046511104
                              · rw [if_pos c48] at H
                                have LMc48 := Aside0.mk c48
                                clear c48
                                obtain ⟨y371, hy371⟩ : ∃ y_ : List (S62), y_ = (x5_1 ++ [(⟨x365000_4, x365001_4, x365002_4, (-1)⟩ : S62)]) := ⟨_, rfl⟩
                                replace H : (purflingref13_Bands.l0 k4 l0 l1 y371 (wrap64 (x6_1 + 1))) = some r := by first | (rw [hy371]; with_reducible exact H) | (have H2_ := (Option.bind_some _ _).symm.trans H; rw [hy371]; with_reducible exact H2_) | (have H2_ := (Option.bind_some _ _).symm.trans H; with_reducible exact H2_) | with_reducible exact H | (rw [hy371]; exact H) | exact H
                                have Ny371 := Aside0.mk hy371
                                clear hy371
                                have H' := Aside0.mk H
                                clear H
                                have hcz49_0 : wr.cell? ⟨gb364, 0, none⟩ = some (.int .i64 x365000_4) := (blk_cell BK364.out 0).trans rfl
                                have hcz49_1 : wr.cell? ⟨gb364, 1, none⟩ = some (.int .i64 x365001_4) := (blk_cell BK364.out 1).trans rfl
                                have hcz49_2 : wr.cell? ⟨gb364, 2, none⟩ = some (.int .i64 x365002_4) := (blk_cell BK364.out 2).trans rfl
                                have hcz49_3 : wr.cell? ⟨gb364, 3, none⟩ = some (.int .i64 x365003_4) := (blk_cell BK364.out 3).trans rfl
                                have hfz49_0 := blk_frozen BK364.out 0
                                have hfz49_1 := blk_frozen BK364.out 1
                                have hfz49_2 := blk_frozen BK364.out 2
                                have hfz49_3 := blk_frozen BK364.out 3
                                go_wp2_with (first | ((with_reducible refine gate_builtin (b := .append) (xs := #[.tmp 109, .tmp 111]) rfl ?_); at_builtin; refine Kd.R_append k62 (w0 := w) w.heap.size rfl (.tmp 109) (.tmp 111) 51 62 (.agg #[(.int .i64 0), (.int .i64 0), (.int .i64 0), (.int .i64 0)]) 32 rfl Try.underlying51 info62 rfl (by decide) (by omega) u5 x5_1 (⟨x365000_4, x365001_4, x365002_4, (-1)⟩ : S62) [.int .i64 x365000_4, .int .i64 x365001_4, .int .i64 x365002_4, .int .i64 (-1)] (fun k_ => k_ ≠ gb364) (fun _ => False) rfl (by first | (go_simp; done) | (go_simp; rfl)) ?aP (fun _ hk => hk.elim) ?aF ?aO ?aB ?aS ?aL ?_; (case aP => exact k62_mkM _ _ _ (⟨x365000_4, x365001_4, x365002_4, (-1)⟩ : S62)); (case aB => exact (by repeat (first | (with_reducible first | exact HB.out | apply below_alloc | apply pw_below_drewN | apply below_drew1 | refine below_set ?_ GE364.out) | exact HB.out))); (case aF => exact (fun k_ hk => Kd.freshB (g := gb364) (o := .cells #[.int .i64 x365000_4, .int .i64 x365001_4, .int .i64 x365002_4, .int .i64 (-1)] 62 (0, 0)) (by (with_reducible repeat (first | refine blk_drewN ?_ _ | refine blk_drew ?_ | refine blk_alloc ?_ _)); refine blk_put (cs := #[.int .i64 x365000_4, .int .i64 x365001_4, .int .i64 x365002_4, .int .i64 x365003_4]) ?_ 3 _ rfl; (with_reducible repeat (first | refine blk_drewN ?_ _ | refine blk_drew ?_ | refine blk_alloc ?_ _)); exact BK364.out) k_ hk)); (case aO => exact (by (with_reducible repeat (first | apply Kd.R_alloc | apply Kd.R_drewN | apply Kd.R_drew)); exact Kd.R_mono (Kd.R_far (p := ⟨gb364, 3, none⟩) (Kd.R_mono HO_5.out (fun k_ hk => (⟨hk, hk⟩ : _ ∧ k_ ≠ gb364))) (fun _ hk => hk.2) (.int .i64 (-1))) (fun _ hk => hk.1))); (case aS => exact (below_size (by repeat (first | (with_reducible first | exact HB.out | apply below_alloc | apply pw_below_drewN | apply below_drew1 | refine below_set ?_ GE364.out) | exact HB.out)))); (case aL => have := LMc48.out; omega); intro v372 w50 ho hb hg hat; rw [← Ny371.out] at ho; have n0_ := Aside0.mk (blk_grown (g := gb364) (o := .cells #[.int .i64 x365000_4, .int .i64 x365001_4, .int .i64 x365002_4, .int .i64 (-1)] 62 (0, 0)) (by (with_reducible repeat (first | refine blk_drewN ?_ _ | refine blk_drew ?_ | refine blk_alloc ?_ _)); refine blk_put (cs := #[.int .i64 x365000_4, .int .i64 x365001_4, .int .i64 x365002_4, .int .i64 x365003_4]) ?_ 3 _ rfl; (with_reducible repeat (first | refine blk_drewN ?_ _ | refine blk_drew ?_ | refine blk_alloc ?_ _)); exact BK364.out) hg (Kd.R_away HO_5.out (fun _ hk => hk))); have n1_ := Aside0.mk (hb); have n2_ := Aside0.mk (ho); clear BK364; clear HB; clear HO_5; have BK364 := n0_; have HB := n1_; have HO373 := n2_; clear n0_ n1_ n2_; clear ho hb hg hat))
                                go_roundg k4
                                case measure => have := HK1.out; have := HJ4.out; have := HJ11.out; have := HK4.out; omega
                                case rel => exact ⟨(y371), (wrap64 (x6_1 + 1)), (by first | rfl | (simp; done) | (simp [*]; done)), H', ⟨by have := HK1.out; have := HJ4.out; have := HJ11.out; have := HK4.out; omega⟩, ⟨by (with_reducible repeat (first | apply Kd.R_alloc | apply Kd.R_drewN | apply Kd.R_drew)); exact Kd.R_mono HO373.out (fun _ hk => trivial)⟩, ⟨by repeat (first | (with_reducible first | exact HB.out | apply below_alloc | apply pw_below_drewN | apply below_drew1 | refine below_set ?_ GE364.out) | exact HB.out)⟩⟩
                              · rw [if_neg c48] at H
                                exact absurd H (by simp)
                            · rw [if_neg c47] at H
                              have c47b0 : decide (0 ≤ x365002_4) = false := decide_eq_false c47
                              clear c47
                              by_cases c51 : x365003_4 ≥ 0
                              · rw [if_pos c51] at H
                                have c51b0 : decide (0 ≤ x365003_4) = true := decide_eq_true c51
                                clear c51
                                obtain ⟨ji52, hji52⟩ : ∃ j_ : Int, (mx x365003_4 x365000_4) = j_ := ⟨_, rfl⟩
                                replace H : (if x5_1.length < 4398046511104 then (purflingref13_Bands.l0 k4 l0 l1 (x5_1 ++ [(⟨x365000_4, ji52, x365002_4, x365003_4⟩ : S62)]) (wrap64 (x6_1 + 1))) else (none)) = some r := by first | (rw [hji52] at H; exact H) | (simp only [hji52] at H ⊢; exact H)
                                have hji52_ : (if x365003_4 < x365000_4 then x365000_4 else x365003_4) = ji52 := hji52
                                by_cases c53 : x5_1.length < 4398046511104
                                · rw [if_pos c53] at H
                                  have LMc53 := Aside0.mk c53
                                  clear c53
                                  obtain ⟨y374, hy374⟩ : ∃ y_ : List (S62), y_ = (x5_1 ++ [(⟨x365000_4, ji52, x365002_4, x365003_4⟩ : S62)]) := ⟨_, rfl⟩
                                  replace H : (purflingref13_Bands.l0 k4 l0 l1 y374 (wrap64 (x6_1 + 1))) = some r := by first | (rw [hy374]; with_reducible exact H) | (have H2_ := (Option.bind_some _ _).symm.trans H; rw [hy374]; with_reducible exact H2_) | (have H2_ := (Option.bind_some _ _).symm.trans H; with_reducible exact H2_) | with_reducible exact H | (rw [hy374]; exact H) | exact H
                                  have Ny374 := Aside0.mk hy374
                                  clear hy374
                                  have H' := Aside0.mk H
                                  clear H
                                  have hcz54_0 : wr.cell? ⟨gb364, 0, none⟩ = some (.int .i64 x365000_4) := (blk_cell BK364.out 0).trans rfl
                                  have hcz54_1 : wr.cell? ⟨gb364, 1, none⟩ = some (.int .i64 x365001_4) := (blk_cell BK364.out 1).trans rfl
                                  have hcz54_2 : wr.cell? ⟨gb364, 2, none⟩ = some (.int .i64 x365002_4) := (blk_cell BK364.out 2).trans rfl
                                  have hcz54_3 : wr.cell? ⟨gb364, 3, none⟩ = some (.int .i64 x365003_4) := (blk_cell BK364.out 3).trans rfl
                                  have hfz54_0 := blk_frozen BK364.out 0
                                  have hfz54_1 := blk_frozen BK364.out 1
                                  have hfz54_2 := blk_frozen BK364.out 2
                                  have hfz54_3 := blk_frozen BK364.out 3
                                  go_wp2_with (first | ((with_reducible refine gate_builtin (b := .append) (xs := #[.tmp 109, .tmp 111]) rfl ?_); at_builtin; refine Kd.R_append k62 (w0 := w) w.heap.size rfl (.tmp 109) (.tmp 111) 51 62 (.agg #[(.int .i64 0), (.int .i64 0), (.int .i64 0), (.int .i64 0)]) 32 rfl Try.underlying51 info62 rfl (by decide) (by omega) u5 x5_1 (⟨x365000_4, ji52, x365002_4, x365003_4⟩ : S62) [.int .i64 x365000_4, .int .i64 ji52, .int .i64 x365002_4, .int .i64 x365003_4] (fun k_ => k_ ≠ gb364) (fun _ => False) rfl (by first | (go_simp; done) | (go_simp; rfl)) ?aP (fun _ hk => hk.elim) ?aF ?aO ?aB ?aS ?aL ?_; (case aP => exact k62_mkM _ _ _ (⟨x365000_4, ji52, x365002_4, x365003_4⟩ : S62)); (case aB => exact (by repeat (first | (with_reducible first | exact HB.out | apply below_alloc | apply pw_below_drewN | apply below_drew1 | refine below_set ?_ GE364.out) | exact HB.out))); (case aF => exact (fun k_ hk => Kd.freshB (g := gb364) (o := .cells #[.int .i64 x365000_4, .int .i64 ji52, .int .i64 x365002_4, .int .i64 x365003_4] 62 (0, 0)) (by (with_reducible repeat (first | refine blk_drewN ?_ _ | refine blk_drew ?_ | refine blk_alloc ?_ _)); refine blk_put (cs := #[.int .i64 x365000_4, .int .i64 x365001_4, .int .i64 x365002_4, .int .i64 x365003_4]) ?_ 1 _ rfl; (with_reducible repeat (first | refine blk_drewN ?_ _ | refine blk_drew ?_ | refine blk_alloc ?_ _)); exact BK364.out) k_ hk)); (case aO => exact (by (with_reducible repeat (first | apply Kd.R_alloc | apply Kd.R_drewN | apply Kd.R_drew)); exact Kd.R_mono (Kd.R_far (p := ⟨gb364, 1, none⟩) (Kd.R_mono HO_5.out (fun k_ hk => (⟨hk, hk⟩ : _ ∧ k_ ≠ gb364))) (fun _ hk => hk.2) (.int .i64 ji52)) (fun _ hk => hk.1))); (case aS => exact (below_size (by repeat (first | (with_reducible first | exact HB.out | apply below_alloc | apply pw_below_drewN | apply below_drew1 | refine below_set ?_ GE364.out) | exact HB.out)))); (case aL => have := LMc53.out; omega); intro v375 w55 ho hb hg hat; rw [← Ny374.out] at ho; have n0_ := Aside0.mk (blk_grown (g := gb364) (o := .cells #[.int .i64 x365000_4, .int .i64 ji52, .int .i64 x365002_4, .int .i64 x365003_4] 62 (0, 0)) (by (with_reducible repeat (first | refine blk_drewN ?_ _ | refine blk_drew ?_ | refine blk_alloc ?_ _)); refine blk_put (cs := #[.int .i64 x365000_4, .int .i64 x365001_4, .int .i64 x365002_4, .int .i64 x365003_4]) ?_ 1 _ rfl; (with_reducible repeat (first | refine blk_drewN ?_ _ | refine blk_drew ?_ | refine blk_alloc ?_ _)); exact BK364.out) hg (Kd.R_away HO_5.out (fun _ hk => hk))); have n1_ := Aside0.mk (hb); have n2_ := Aside0.mk (ho); clear BK364; clear HB; clear HO_5; have BK364 := n0_; have HB := n1_; have HO376 := n2_; clear n0_ n1_ n2_; clear ho hb hg hat))
                                  go_roundg k4
                                  case measure => have := HK1.out; have := HJ4.out; have := HJ11.out; have := HK4.out; omega
                                  case rel => exact ⟨(y374), (wrap64 (x6_1 + 1)), (by first | rfl | (simp; done) | (simp [*]; done)), H', ⟨by have := HK1.out; have := HJ4.out; have := HJ11.out; have := HK4.out; omega⟩, ⟨by (with_reducible repeat (first | apply Kd.R_alloc | apply Kd.R_drewN | apply Kd.R_drew)); exact Kd.R_mono HO376.out (fun _ hk => trivial)⟩, ⟨by repeat (first | (with_reducible first | exact HB.out | apply below_alloc | apply pw_below_drewN | apply below_drew1 | refine below_set ?_ GE364.out) | exact HB.out)⟩⟩
                                · rw [if_neg c53] at H
                                  exact absurd H (by simp)
                              · rw [if_neg c51] at H
                                have c51b0 : decide (0 ≤ x365003_4) = false := decide_eq_false c51
                                clear c51
                                by_cases c56 : x5_1.length < 4398046511104
                                · rw [if_pos c56] at H
                                  have LMc56 := Aside0.mk c56
                                  clear c56
                                  obtain ⟨y377, hy377⟩ : ∃ y_ : List (S62), y_ = (x5_1 ++ [(⟨x365000_4, x365001_4, x365002_4, x365003_4⟩ : S62)]) := ⟨_, rfl⟩
                                  replace H : (purflingref13_Bands.l0 k4 l0 l1 y377 (wrap64 (x6_1 + 1))) = some r := by first | (rw [hy377]; with_reducible exact H) | (have H2_ := (Option.bind_some _ _).symm.trans H; rw [hy377]; with_reducible exact H2_) | (have H2_ := (Option.bind_some _ _).symm.trans H; with_reducible exact H2_) | with_reducible exact H | (rw [hy377]; exact H) | exact H
                                  have Ny377 := Aside0.mk hy377
                                  clear hy377
                                  have H' := Aside0.mk H
                                  clear H
                                  have hcz57_0 : wr.cell? ⟨gb364, 0, none⟩ = some (.int .i64 x365000_4) := (blk_cell BK364.out 0).trans rfl
                                  have hcz57_1 : wr.cell? ⟨gb364, 1, none⟩ = some (.int .i64 x365001_4) := (blk_cell BK364.out 1).trans rfl
                                  have hcz57_2 : wr.cell? ⟨gb364, 2, none⟩ = some (.int .i64 x365002_4) := (blk_cell BK364.out 2).trans rfl
                                  have hcz57_3 : wr.cell? ⟨gb364, 3, none⟩ = some (.int .i64 x365003_4) := (blk_cell BK364.out 3).trans rfl
                                  have hfz57_0 := blk_frozen BK364.out 0
                                  have hfz57_1 := blk_frozen BK364.out 1
                                  have hfz57_2 := blk_frozen BK364.out 2
                                  have hfz57_3 := blk_frozen BK364.out 3
                                  go_wp2_with (first | ((with_reducible refine gate_builtin (b := .append) (xs := #[.tmp 109, .tmp 111]) rfl ?_); at_builtin; refine Kd.R_append k62 (w0 := w) w.heap.size rfl (.tmp 109) (.tmp 111) 51 62 (.agg #[(.int .i64 0), (.int .i64 0), (.int .i64 0), (.int .i64 0)]) 32 rfl Try.underlying51 info62 rfl (by decide) (by omega) u5 x5_1 (⟨x365000_4, x365001_4, x365002_4, x365003_4⟩ : S62) [.int .i64 x365000_4, .int .i64 x365001_4, .int .i64 x365002_4, .int .i64 x365003_4] (fun k_ => k_ ≠ gb364) (fun _ => False) rfl rfl ?aP (fun _ hk => hk.elim) ?aF ?aO ?aB ?aS ?aL ?_; (case aP => exact k62_mkM _ _ _ (⟨x365000_4, x365001_4, x365002_4, x365003_4⟩ : S62)); (case aB => exact (by repeat (first | (with_reducible first | exact HB.out | apply below_alloc | apply pw_below_drewN | apply below_drew1 | refine below_set ?_ GE364.out) | exact HB.out))); (case aF => exact (fun k_ hk => Kd.freshB (g := gb364) (o := .cells #[.int .i64 x365000_4, .int .i64 x365001_4, .int .i64 x365002_4, .int .i64 x365003_4] 62 (0, 0)) (by (with_reducible repeat (first | refine blk_drewN ?_ _ | refine blk_drew ?_ | refine blk_alloc ?_ _)); exact BK364.out) k_ hk)); (case aO => exact (by (with_reducible repeat (first | apply Kd.R_alloc | apply Kd.R_drewN | apply Kd.R_drew)); exact HO_5.out)); (case aS => exact (below_size (by repeat (first | (with_reducible first | exact HB.out | apply below_alloc | apply pw_below_drewN | apply below_drew1 | refine below_set ?_ GE364.out) | exact HB.out)))); (case aL => have := LMc56.out; omega); intro v378 w58 ho hb hg hat; rw [← Ny377.out] at ho; have n0_ := Aside0.mk (blk_grown (g := gb364) (o := .cells #[.int .i64 x365000_4, .int .i64 x365001_4, .int .i64 x365002_4, .int .i64 x365003_4] 62 (0, 0)) (by (with_reducible repeat (first | refine blk_drewN ?_ _ | refine blk_drew ?_ | refine blk_alloc ?_ _)); exact BK364.out) hg (Kd.R_away HO_5.out (fun _ hk => hk))); have n1_ := Aside0.mk (hb); have n2_ := Aside0.mk (ho); clear BK364; clear HB; clear HO_5; have BK364 := n0_; have HB := n1_; have HO379 := n2_; clear n0_ n1_ n2_; clear ho hb hg hat))
                                  go_roundg k4
                                  case measure => have := HK1.out; have := HJ4.out; have := HJ11.out; have := HK4.out; omega
                                  case rel => exact ⟨(y377), (wrap64 (x6_1 + 1)), (by first | rfl | (simp; done) | (simp [*]; done)), H', ⟨by have := HK1.out; have := HJ4.out; have := HJ11.out; have := HK4.out; omega⟩, ⟨by (with_reducible repeat (first | apply Kd.R_alloc | apply Kd.R_drewN | apply Kd.R_drew)); exact Kd.R_mono HO379.out (fun _ hk => trivial)⟩, ⟨by repeat (first | (with_reducible first | exact HB.out | apply below_alloc | apply pw_below_drewN | apply below_drew1 | refine below_set ?_ GE364.out) | exact HB.out)⟩⟩
                                · rw [if_neg c56] at H
                                  exact absurd H (by simp)
                · rw [if_neg c11] at H
                  exact absurd H (by simp)
              · rw [if_neg c10] at H
                exact absurd H (by simp)
        · rw [if_neg c4] at H
          exact absurd H (by simp)
      · rw [if_neg c3] at H
        have c3b0 : decide (x6_1 < (l0.length : Int)) = false := decide_eq_false c3
        clear c3
        obtain rfl := Option.some.inj H
        go_wp2
        go_ret
        exact ⟨_, by first | rfl | (simp [errW_none, errW_some] <;> rfl) | (simp [*, errW_none, errW_some] <;> rfl), by (with_reducible repeat (first | apply Kd.R_alloc | apply Kd.R_drewN | apply Kd.R_drew)); exact HO_5.out, by repeat (first | (with_reducible first | exact HB.out | apply below_alloc | apply pw_below_drewN | apply below_drew1) | exact HB.out)⟩

end Go.Proofs.Ytfoocmmjefdojaa.K
