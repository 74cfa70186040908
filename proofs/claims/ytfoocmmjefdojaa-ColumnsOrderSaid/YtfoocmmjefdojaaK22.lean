-- PRINTED by print.py (a twelfth state) out of the translation. Not trusted: Lean checks it.
import Derived.Test.YtfoocmmjefdojaaBands
import Derived.Test.YtfoocmmjefdojaaK0
import Derived.Test.YtfoocmmjefdojaaK17
import Derived.Test.YtfoocmmjefdojaaK19
namespace Go.Proofs.Ytfoocmmjefdojaa.K
open Go.RowKit Go.Proofs.YtfoocmmjefdojaaW.PrintWords Go.Proofs.YtfoocmmjefdojaaW.PrintLast Go.Proofs.YtfoocmmjefdojaaW.PrintMore
attribute [local go_sem] max2_int min2_int max_two min_two max_three min_three max_four min_four   -- for this text's walks alone
set_option linter.unusedVariables false
set_option linter.unusedSimpArgs false

/-! ### purflinglaw13_ColumnsOrder: function 10 -/
def purflinglaw13_ColumnsOrder.l0 : Nat → List (S58) → List (S60) → Bool → List (S60) → Int → Option (Bool)
  | 0, _, _, _, _, _ => none
  | k + 1, x0, x1, x5, x6, x7 => if x7 ≥ 0 then (if 0 ≤ x7 then (if x7 < (x1.length : Int) then ((some (([(⟨(⟨(rd_T60 x1 x7).f0.f0, (rd_T60 x1 x7).f0.f1, (rd_T60 x1 x7).f0.f2, (rd_T60 x1 x7).f0.f3, (rd_T60 x1 x7).f0.f4⟩ : S40), (rd_T60 x1 x7).f1, (rd_T60 x1 x7).f2, (⟨(rd_T60 x1 x7).f3.f0, (rd_T60 x1 x7).f3.f1⟩ : S58)⟩ : S60), (⟨(⟨(rd_T60 x1 x7).f0.f0, (rd_T60 x1 x7).f0.f1, (rd_T60 x1 x7).f0.f2, (rd_T60 x1 x7).f0.f3, (rd_T60 x1 x7).f0.f4⟩ : S40), (rd_T60 x1 x7).f1, (rd_T60 x1 x7).f2, (⟨(rd_T60 x1 x7).f3.f0, (rd_T60 x1 x7).f3.f1⟩ : S58)⟩ : S60)] : List (S60)) : List (S60))).bind fun y407 => (if x6.length + y407.length < 1954687338268 then (purflinglaw13_ColumnsOrder.l0 k x0 x1 x5 (x6 ++ y407) (wrap64 (x7 - 1))) else (none))) else (none)) else (none)) else ((columns_Bands.f x0 x1).bind fun bt413 => ((columns_Bands.f x0 x6).bind fun bt417 => (if x5 = true then (if bt413.2 = bt417.2 then ((purflingref13_Same.f k bt413.1 bt417.1).bind fun t421 => (some t421)) else (some false)) else (some false))))
def purflinglaw13_ColumnsOrder.f (k : Nat) (l0 : List (S58)) (l1 : List (S60)) : Option (Bool) := (purflinglaw13_shown.f).bind fun t398 => ((purflinglaw13_Cut.f l0 l1).bind fun bt399 => (purflinglaw13_ColumnsOrder.l0 k bt399.1 bt399.2 t398 ([] : List (S60)) (wrap64 ((bt399.2.length : Int) - 1))))
theorem purflinglaw13_ColumnsOrder.mono_l : ∀ k, (∀ y0 y1 y2 y3 y4, LeO (purflinglaw13_ColumnsOrder.l0 k y0 y1 y2 y3 y4) (purflinglaw13_ColumnsOrder.l0 (k + 1) y0 y1 y2 y3 y4))
  | 0 => fun _ _ _ _ _ r h => by simp [purflinglaw13_ColumnsOrder.l0] at h
  | k + 1 => by
    have ih0 := purflinglaw13_ColumnsOrder.mono_l k
    · intro y0 y1 y2 y3 y4
      unfold purflinglaw13_ColumnsOrder.l0
      repeat' first
      | (with_reducible exact ih0 _ _ _ _ _)
      | (with_reducible exact purflingref13_Same.mono _ _ _)
      | (with_reducible exact LeO.refl _)
      | (with_reducible exact LeO.none _)
      | (with_reducible refine LeO.ite ?_ ?_)
      | (with_reducible refine LeO.bind ?_ (fun _ => ?_))
      | exact ih0 _ _ _ _ _
      | exact purflingref13_Same.mono _ _ _
      | exact LeO.none _
      | refine LeO.ite ?_ ?_
      | refine LeO.bind ?_ (fun _ => ?_)
theorem purflinglaw13_ColumnsOrder.mono : ∀ a0 a1 k, LeO (purflinglaw13_ColumnsOrder.f k a0 a1) (purflinglaw13_ColumnsOrder.f (k + 1) a0 a1) := by
  intro a0 a1 k
  have ih0 := purflinglaw13_ColumnsOrder.mono_l k
  unfold purflinglaw13_ColumnsOrder.f
  repeat' first
      | (with_reducible exact ih0 _ _ _ _ _)
      | (with_reducible exact purflingref13_Same.mono _ _ _)
      | (with_reducible exact LeO.refl _)
      | (with_reducible exact LeO.none _)
      | (with_reducible refine LeO.ite ?_ ?_)
      | (with_reducible refine LeO.bind ?_ (fun _ => ?_))
      | exact ih0 _ _ _ _ _
      | exact purflingref13_Same.mono _ _ _
      | exact LeO.none _
      | refine LeO.ite ?_ ?_
      | refine LeO.bind ?_ (fun _ => ?_)
def purflinglaw13_ColumnsOrder.T7 : Bool × List (List Nat × List Nat) := (true, [([], []), ([], []), ([], []), ([1, 2], [1, 2]), ([3], [3]), ([], []), ([], []), ([5, 6], [5, 6]), ([7], [7]), ([4, 8], [4, 8]), ([0, 9], [0, 9]), ([10, 10, 0, 1, 2, 3, 4, 5, 6, 7, 8, 9, 10], [0, 10])])
def purflinglaw13_ColumnsOrder.B7 : List Nat := [0, 0, 0, 6, 14, 0, 0, 96, 224, 510, 1023, 2047]
theorem purflinglaw13_ColumnsOrder.tab7 : rtab .any (opsOf Try.f10 7) = purflinglaw13_ColumnsOrder.T7 := by kernel_rfl
theorem purflinglaw13_ColumnsOrder.bits7 : waitsOk purflinglaw13_ColumnsOrder.T7.2 purflinglaw13_ColumnsOrder.B7 = true := by kernel_rfl
set_option maxHeartbeats 8000000 in
set_option maxRecDepth 100000 in
theorem purflinglaw13_ColumnsOrder.calls (k : Nat) (A0 : Option Addr) (c0 : Nat) (l0 : List (S58)) (A1 : Option Addr) (c1 : Nat) (l1 : List (S60)) (r : Bool) (w : World) (hr0 : Kd.C k58 w A0 l0.length l0) (hc0 : l0.length ≤ c0) (hr1 : Kd.C k60 w A1 l1.length l1) (hc1 : l1.length ≤ c1) (h : purflinglaw13_ColumnsOrder.f k l0 l1 = some r) :
    Calls Try.prog 10 #[.slice A0 l0.length c0, .slice A1 l1.length c1] w fun e w' => e = .returned (.bool r) ∧ Below w.heap.size w w' := by
  have hu60 := Try.underlying60
  have HR0 := Aside0.mk hr0
  have HC0 := Aside0.mk hc0
  clear hr0 hc0
  have HR1 := Aside0.mk hr1
  have HC1 := Aside0.mk hc1
  clear hr1 hc1
  have HB := Aside0.mk (Below.refl w.heap.size w)
  have H : ((purflinglaw13_shown.f).bind fun t398 => ((purflinglaw13_Cut.f l0 l1).bind fun bt399 => (purflinglaw13_ColumnsOrder.l0 k bt399.1 bt399.2 t398 ([] : List (S60)) (wrap64 ((bt399.2.length : Int) - 1))))) = some r := h
  clear h
  replace H := Option.bind_eq_some_iff.mp H
  obtain ⟨t398, A30, H⟩ := H
  replace H : ((purflinglaw13_Cut.f l0 l1).bind fun bt399 => (purflinglaw13_ColumnsOrder.l0 k bt399.1 bt399.2 t398 ([] : List (S60)) (wrap64 ((bt399.2.length : Int) - 1)))) = some r := H
  have A3 := Aside0.mk A30
  clear A30
  replace H := Option.bind_eq_some_iff.mp H
  obtain ⟨⟨t399, t402⟩, A40, H⟩ := H
  replace H : (purflinglaw13_ColumnsOrder.l0 k t399 t402 t398 ([] : List (S60)) (wrap64 ((t402.length : Int) - 1))) = some r := H
  have A4 := Aside0.mk A40
  clear A40
  have H' := Aside0.mk H
  clear H
  go_enter Try.func10, Try.ntmps10
  go_wp2_with (first | ((with_reducible refine gate_callee (f := 26) rfl ?_); refine goesL_ (some 12) rfl rfl Try.func26 (by kernel_rfl) rfl #[] rfl (by (try simp only [List.map_toArray, List.map_cons, List.map_nil]); first | done | rfl | (simp only [List.length_drop, List.length_take]; rfl)) ?_; (with_reducible refine (purflinglaw13_shown.calls  t398 _ A3.out).mono ?_); rintro e w5 ⟨rfl, hb⟩; refine ⟨_, rfl, ?_⟩; have n0_ := Aside0.mk (below_step (by repeat (first | (with_reducible first | exact HB.out | apply below_alloc | apply pw_below_drewN | apply below_drew1) | exact HB.out)) hb); clear HB; have HB := n0_; clear n0_; (try clear hb); (try clear hb2); (try clear hk); (try clear hi)) | ((with_reducible refine gate_callee (f := 27) rfl ?_); refine goesL_ (some 16) rfl rfl Try.func27 (by kernel_rfl) rfl #[.slice A0 l0.length c0, .slice A1 l1.length c1] rfl (by (try simp only [List.map_toArray, List.map_cons, List.map_nil]); first | done | rfl | (simp only [List.length_drop, List.length_take]; rfl)) ?_; (with_reducible refine (purflinglaw13_Cut.calls (fun k_ => k_ < w.heap.size) _ _ l0 (fun k_ => k_ < w.heap.size) _ _ l1 t399 t402 _ ?side1 ?side2 A4.out).mono ?_); (case side1 => exact Kd.V_mk HC0.out (Kd.F_below (Kd.C_F k58_heap HR0.out) (by repeat (first | (with_reducible first | exact HB.out | apply below_alloc | apply pw_below_drewN | apply below_drew1) | exact HB.out)))); (case side2 => exact Kd.V_mk HC1.out (Kd.F_below (Kd.C_F k60_heap HR1.out) (by repeat (first | (with_reducible first | exact HB.out | apply below_alloc | apply pw_below_drewN | apply below_drew1) | exact HB.out)))); rintro e w6 ⟨v400, v403, rfl, ho0, ho1, hb⟩; refine ⟨_, rfl, ?_⟩; have n0_ := Aside0.mk (Kd.V_lower (Kd.V_mono (ok' := fun k_ => True) ho0 (fun k_ hk_ => trivial)) (below_size (by repeat (first | (with_reducible first | exact HB.out | apply below_alloc | apply pw_below_drewN | apply below_drew1) | exact HB.out)))); have n1_ := Aside0.mk (Kd.V_lower (Kd.V_mono (ok' := fun k_ => True) ho1 (fun k_ hk_ => trivial)) (below_size (by repeat (first | (with_reducible first | exact HB.out | apply below_alloc | apply pw_below_drewN | apply below_drew1) | exact HB.out)))); have n2_ := Aside0.mk (below_step (by repeat (first | (with_reducible first | exact HB.out | apply below_alloc | apply pw_below_drewN | apply below_drew1) | exact HB.out)) hb); clear HB; have HO401 := n0_; have HO404 := n1_; have HB := n2_; clear n0_ n1_ n2_; (try clear hb); (try clear hb2); (try clear hk); (try clear hi); (try clear ho0); (try clear ho1); obtain ⟨Ao7, co7, eo7⟩ := Kd.V_slice HO404.out; subst eo7))
  go_loopg [6, 7] k (fun kq v6 v7 w' => ∃ (x6_1 : List (S60)) (x7_1 : Int), v7 = .int .i64 x7_1 ∧ Aside0 (purflinglaw13_ColumnsOrder.l0 kq t399 t402 t398 x6_1 x7_1 = some r) ∧ Aside0 (kq ≤ k) ∧ Aside0 (Kd.V k58 58 w' w.heap.size (fun k_ => some k_ ≠ (v6 : Value).ownBlock) v400 t399) ∧ Aside0 (Kd.V k60 60 w' w.heap.size (fun k_ => some k_ ≠ (v6 : Value).ownBlock) (.slice Ao7 t402.length co7) t402) ∧ Aside0 (Kd.R k60 60 w' w.heap.size (fun _ => True) v6 x6_1) ∧ Aside0 (Below w.heap.size w w'))
  case atStart => exact ⟨(([] : List (S60))), (wrap64 ((t402.length : Int) - 1)), (by first | rfl | (simp; done) | (simp [*]; done)), H', ⟨Nat.le_refl _⟩, ⟨by (with_reducible repeat (first | apply Kd.V_alloc | apply Kd.V_drewN | apply Kd.V_drew)); exact Kd.V_mono HO401.out (fun _ hk => (by simp [Value.ownBlock]))⟩, ⟨by (with_reducible repeat (first | apply Kd.V_alloc | apply Kd.V_drewN | apply Kd.V_drew)); exact Kd.V_mono HO404.out (fun _ hk => (by simp [Value.ownBlock]))⟩, ⟨by first | exact Kd.R_nil _ _ _ _ _ | exact Kd.N_nil _ _ _ _ _ | exact Kd.V_nil _ _ _ _ _ | exact Kd.Q_nil _ _ _ _ _ | exact Kd.S_nil _ _ _ _ _⟩, ⟨by repeat (first | (with_reducible first | exact HB.out | apply below_alloc | apply pw_below_drewN | apply below_drew1) | exact HB.out)⟩⟩
  case round =>
    clear H'
    try clear c1
    try clear c2
    try clear p2
    try clear p6
    obtain ⟨x6_1, x7_1, rfl, HA, HK1, HO_0, HO_1, HO_6, HB⟩ := hrel
    cases gk with
    | zero => exact absurd HA.out (by simp [purflinglaw13_ColumnsOrder.l0])
    | succ k1 =>
      have H := HA.out
      clear HA
      simp only [purflinglaw13_ColumnsOrder.l0] at H
      by_cases c8 : x7_1 ≥ 0
      · rw [if_pos c8] at H
        have c8b0 : decide (0 ≤ x7_1) = true := decide_eq_true c8
        clear c8
        by_cases c9 : 0 ≤ x7_1
        · rw [if_pos c9] at H
          have c9b0 : decide (0 ≤ x7_1) = true := decide_eq_true c9
          clear c9
          by_cases c10 : x7_1 < (t402.length : Int)
          · rw [if_pos c10] at H
            have c10b0 : decide (x7_1 < (t402.length : Int)) = true := decide_eq_true c10
            clear c10
            obtain ⟨y407, hy407⟩ : ∃ y_ : List (S60), y_ = (([(⟨(⟨(rd_T60 t402 x7_1).f0.f0, (rd_T60 t402 x7_1).f0.f1, (rd_T60 t402 x7_1).f0.f2, (rd_T60 t402 x7_1).f0.f3, (rd_T60 t402 x7_1).f0.f4⟩ : S40), (rd_T60 t402 x7_1).f1, (rd_T60 t402 x7_1).f2, (⟨(rd_T60 t402 x7_1).f3.f0, (rd_T60 t402 x7_1).f3.f1⟩ : S58)⟩ : S60), (⟨(⟨(rd_T60 t402 x7_1).f0.f0, (rd_T60 t402 x7_1).f0.f1, (rd_T60 t402 x7_1).f0.f2, (rd_T60 t402 x7_1).f0.f3, (rd_T60 t402 x7_1).f0.f4⟩ : S40), (rd_T60 t402 x7_1).f1, (rd_T60 t402 x7_1).f2, (⟨(rd_T60 t402 x7_1).f3.f0, (rd_T60 t402 x7_1).f3.f1⟩ : S58)⟩ : S60)] : List (S60))) := ⟨_, rfl⟩
            replace H : (if x6_1.length + y407.length < 1954687338268 then (purflinglaw13_ColumnsOrder.l0 k1 t399 t402 t398 (x6_1 ++ y407) (wrap64 (x7_1 - 1))) else (none)) = some r := by first | (rw [hy407]; with_reducible exact H) | (have H2_ := (Option.bind_some _ _).symm.trans H; rw [hy407]; with_reducible exact H2_) | (have H2_ := (Option.bind_some _ _).symm.trans H; with_reducible exact H2_) | with_reducible exact H | (rw [hy407]; exact H) | exact H
            have Ny407 := Aside0.mk hy407
            clear hy407
            by_cases c11 : x6_1.length + y407.length < 1954687338268
            · rw [if_pos c11] at H
              have LMc11 := Aside0.mk c11
              clear c11
              obtain ⟨y410, hy410⟩ : ∃ y_ : List (S60), y_ = (x6_1 ++ y407) := ⟨_, rfl⟩
              replace H : (purflinglaw13_ColumnsOrder.l0 k1 t399 t402 t398 y410 (wrap64 (x7_1 - 1))) = some r := by first | (rw [hy410]; with_reducible exact H) | (have H2_ := (Option.bind_some _ _).symm.trans H; rw [hy410]; with_reducible exact H2_) | (have H2_ := (Option.bind_some _ _).symm.trans H; with_reducible exact H2_) | with_reducible exact H | (rw [hy410]; exact H) | exact H
              have Ny410 := Aside0.mk hy410
              clear hy410
              have H' := Aside0.mk H
              clear H
              try go_wp2
              have n0_ := Aside0.mk (Kd.V_drew HO_0.out)
              have n1_ := Aside0.mk (Kd.V_drew HO_1.out)
              have n2_ := Aside0.mk (Kd.R_drew HO_6.out)
              have n3_ := Aside0.mk (below_drew1 HB.out)
              clear HO_0
              clear HO_1
              clear HO_6
              clear HB
              have HO_0 := n0_
              have HO_1 := n1_
              have HO_6 := n2_
              have HB := n3_
              clear n0_ n1_ n2_ n3_
              have p405 : 0 ≤ (x7_1 : Int) := of_decide_eq_true (by first | (with_reducible assumption) | assumption)
              have q405 : x7_1 < (t402.length : Int) := of_decide_eq_true (by first | (with_reducible assumption) | assumption)
              obtain ⟨ad405, e405, hx405_0, hx405_1, hx405_2, hx405_3, hx405_4, hx405_5, hx405_6, hx405_7, hx405_8⟩ := at_T60 (Kd.V_reads' HO_1.out).2.2 x7_1 p405 q405
              cases e405
              replace p405 := eq_true p405
              replace q405 := eq_true q405
              have p406 : 0 ≤ (x7_1 : Int) := of_decide_eq_true (by first | (with_reducible assumption) | assumption)
              have q406 : x7_1 < (t402.length : Int) := of_decide_eq_true (by first | (with_reducible assumption) | assumption)
              obtain ⟨ad406, e406, hx406_0, hx406_1, hx406_2, hx406_3, hx406_4, hx406_5, hx406_6, hx406_7, hx406_8⟩ := at_T60 (Kd.V_reads' HO_1.out).2.2 x7_1 p406 q406
              obtain rfl : ad405 = ad406 := (by injection e406)
              replace p406 := eq_true p406
              replace q406 := eq_true q406
              refine start_ (n := 12) (S := fun w' => w'.cell? (ad405.add ((x7_1).toNat * 9)) = some (.int .i64 ((rd_T60 t402 x7_1).f0.f0)) ∧ w'.cell? ⟨(ad405.add ((x7_1).toNat * 9)).block, (ad405.add ((x7_1).toNat * 9)).off + 1, none⟩ = some (.int .i64 ((rd_T60 t402 x7_1).f0.f1)) ∧ w'.cell? ⟨(ad405.add ((x7_1).toNat * 9)).block, (ad405.add ((x7_1).toNat * 9)).off + 2, none⟩ = some (.int .i64 ((rd_T60 t402 x7_1).f0.f2)) ∧ w'.cell? ⟨(ad405.add ((x7_1).toNat * 9)).block, (ad405.add ((x7_1).toNat * 9)).off + 3, none⟩ = some (.int .i64 ((rd_T60 t402 x7_1).f0.f3)) ∧ w'.cell? ⟨(ad405.add ((x7_1).toNat * 9)).block, (ad405.add ((x7_1).toNat * 9)).off + 4, none⟩ = some (.int .i64 ((rd_T60 t402 x7_1).f0.f4)) ∧ w'.cell? ⟨(ad405.add ((x7_1).toNat * 9)).block, (ad405.add ((x7_1).toNat * 9)).off + 5, none⟩ = some (.int .i64 ((rd_T60 t402 x7_1).f1)) ∧ w'.cell? ⟨(ad405.add ((x7_1).toNat * 9)).block, (ad405.add ((x7_1).toNat * 9)).off + 6, none⟩ = some (.int .i64 ((rd_T60 t402 x7_1).f2)) ∧ w'.cell? ⟨(ad405.add ((x7_1).toNat * 9)).block, (ad405.add ((x7_1).toNat * 9)).off + 7, none⟩ = some (.int .i64 ((rd_T60 t402 x7_1).f3.f0)) ∧ w'.cell? ⟨(ad405.add ((x7_1).toNat * 9)).block, (ad405.add ((x7_1).toNat * 9)).off + 8, none⟩ = some (.int .i64 ((rd_T60 t402 x7_1).f3.f1)) ∧ w'.cell? (ad405.add ((x7_1).toNat * 9)) = some (.int .i64 ((rd_T60 t402 x7_1).f0.f0)) ∧ w'.cell? ⟨(ad405.add ((x7_1).toNat * 9)).block, (ad405.add ((x7_1).toNat * 9)).off + 1, none⟩ = some (.int .i64 ((rd_T60 t402 x7_1).f0.f1)) ∧ w'.cell? ⟨(ad405.add ((x7_1).toNat * 9)).block, (ad405.add ((x7_1).toNat * 9)).off + 2, none⟩ = some (.int .i64 ((rd_T60 t402 x7_1).f0.f2)) ∧ w'.cell? ⟨(ad405.add ((x7_1).toNat * 9)).block, (ad405.add ((x7_1).toNat * 9)).off + 3, none⟩ = some (.int .i64 ((rd_T60 t402 x7_1).f0.f3)) ∧ w'.cell? ⟨(ad405.add ((x7_1).toNat * 9)).block, (ad405.add ((x7_1).toNat * 9)).off + 4, none⟩ = some (.int .i64 ((rd_T60 t402 x7_1).f0.f4)) ∧ w'.cell? ⟨(ad405.add ((x7_1).toNat * 9)).block, (ad405.add ((x7_1).toNat * 9)).off + 5, none⟩ = some (.int .i64 ((rd_T60 t402 x7_1).f1)) ∧ w'.cell? ⟨(ad405.add ((x7_1).toNat * 9)).block, (ad405.add ((x7_1).toNat * 9)).off + 6, none⟩ = some (.int .i64 ((rd_T60 t402 x7_1).f2)) ∧ w'.cell? ⟨(ad405.add ((x7_1).toNat * 9)).block, (ad405.add ((x7_1).toNat * 9)).off + 7, none⟩ = some (.int .i64 ((rd_T60 t402 x7_1).f3.f0)) ∧ w'.cell? ⟨(ad405.add ((x7_1).toNat * 9)).block, (ad405.add ((x7_1).toNat * 9)).off + 8, none⟩ = some (.int .i64 ((rd_T60 t402 x7_1).f3.f1))) (ds := [10]) #[false, false, false, false, false, false, false, false, false, false, false, false] (by kernel_rfl) rfl rfl ⟨hx405_0, hx405_1, hx405_2, hx405_3, hx405_4, hx405_5, hx405_6, hx405_7, hx405_8, hx406_0, hx406_1, hx406_2, hx406_3, hx406_4, hx406_5, hx406_6, hx406_7, hx406_8⟩ (fun hHeld => ?_); refine with_tabW purflinglaw13_ColumnsOrder.tab7 purflinglaw13_ColumnsOrder.bits7 (fun HT_ HW_ => ?_)
              generalize wr.drew = w12 at HO_0 HO_1 HO_6 HB hx405_0 hx405_1 hx405_2 hx405_3 hx405_4 hx405_5 hx405_6 hx405_7 hx405_8 hx406_0 hx406_1 hx406_2 hx406_3 hx406_4 hx406_5 hx406_6 hx406_7 hx406_8 hHeld ⊢
              refine pure_ (i := 0) (N := some 26) (v := ?_) (a' := ?_) #[true, false, false, false, false, false, false, false, false, false, false, false] rfl rfl (any_of HT_.out (by kernel_rfl)) (fun _ _ _ h => h) (Or.inl ⟨by rfl, ?_⟩) ?_ ?_
              rotate_left
              · intro w'
                go_simp
                with_reducible rfl
              rotate_left
              · simp only [Act.put, List.setIfInBounds_toArray, List.set_cons_zero, List.set_cons_succ, i64_w, i32_w]
                rfl
              refine pure_ (i := 1) (N := some 27) (v := ?_) (a' := ?_) #[true, true, false, false, false, false, false, false, false, false, false, false] rfl rfl (any_of HT_.out (by kernel_rfl)) (fun _ _ _ h => h) (Or.inl ⟨by rfl, ?_⟩) ?_ ?_
              rotate_left
              · intro w'
                go_simp
                with_reducible rfl
              rotate_left
              · simp only [Act.put, List.setIfInBounds_toArray, List.set_cons_zero, List.set_cons_succ, i64_w, i32_w]
                rfl
              refine pure_ (i := 2) (N := some 28) (v := ?_) (a' := ?_) #[true, true, true, false, false, false, false, false, false, false, false, false] rfl rfl (any_of HT_.out (by kernel_rfl)) (fun _ _ _ h => h) (Or.inl ⟨by rfl, ?_⟩) ?_ ?_
              rotate_left
              · intro w'
                go_simp
                with_reducible rfl
              rotate_left
              · simp only [Act.put, List.setIfInBounds_toArray, List.set_cons_zero, List.set_cons_succ, i64_w, i32_w]
                rfl
              refine pure_ (i := 3) (N := some 29) (v := ?_) (a' := ?_) #[true, true, true, true, false, false, false, false, false, false, false, false] rfl rfl (any_of HT_.out (by kernel_rfl)) (fun _ _ _ h => h) (Or.inl ⟨by rfl, ?_⟩) ?_ ?_
              rotate_left
              · intro w'
                go_simp
                with_reducible rfl
              rotate_left
              · simp only [Act.put, List.setIfInBounds_toArray, List.set_cons_zero, List.set_cons_succ, i64_w, i32_w]
                rfl
              refine pure_ (i := 5) (N := some 31) (v := ?_) (a' := ?_) #[true, true, true, true, false, true, false, false, false, false, false, false] rfl rfl (any_of HT_.out (by kernel_rfl)) (fun _ _ _ h => h) (Or.inl ⟨by rfl, ?_⟩) ?_ ?_
              rotate_left
              · intro w'
                go_simp
                with_reducible rfl
              rotate_left
              · simp only [Act.put, List.setIfInBounds_toArray, List.set_cons_zero, List.set_cons_succ, i64_w, i32_w]
                rfl
              refine pure_ (i := 6) (N := some 32) (v := ?_) (a' := ?_) #[true, true, true, true, false, true, true, false, false, false, false, false] rfl rfl (any_of HT_.out (by kernel_rfl)) (fun _ _ _ h => h) (Or.inl ⟨by rfl, ?_⟩) ?_ ?_
              rotate_left
              · intro w'
                go_simp
                with_reducible rfl
              rotate_left
              · simp only [Act.put, List.setIfInBounds_toArray, List.set_cons_zero, List.set_cons_succ, i64_w, i32_w]
                rfl
              refine pure_ (i := 7) (N := some 33) (v := ?_) (a' := ?_) #[true, true, true, true, false, true, true, true, false, false, false, false] rfl rfl (any_of HT_.out (by kernel_rfl)) (fun _ _ _ h => h) (Or.inl ⟨by rfl, ?_⟩) ?_ ?_
              rotate_left
              · intro w'
                go_simp
                with_reducible rfl
              rotate_left
              · simp only [Act.put, List.setIfInBounds_toArray, List.set_cons_zero, List.set_cons_succ, i64_w, i32_w]
                rfl
              refine take_ (i := 4) (N := some 30) (v := ?_) (a' := ?_) #[true, true, true, true, true, true, true, true, false, false, false, false] rfl rfl (take_ofW HT_.out HW_.out (by kernel_rfl)) (fun _ _ _ h => h) (Or.inl ⟨by rfl, ?_⟩) hHeld ?_ ?_
              rotate_left
              · rintro w' ⟨s0, s1, s2, s3, s4, s5, s6, s7, s8, s9, s10, s11, s12, s13, s14, s15, s16, s17⟩
                go_simp
                with_reducible rfl
              rotate_left
              · simp only [Act.put, List.setIfInBounds_toArray, List.set_cons_zero, List.set_cons_succ, i64_w, i32_w]
                rfl
              refine take_ (i := 8) (N := some 34) (v := ?_) (a' := ?_) #[true, true, true, true, true, true, true, true, true, false, false, false] rfl rfl (take_ofW HT_.out HW_.out (by kernel_rfl)) (fun _ _ _ h => h) (Or.inl ⟨by rfl, ?_⟩) hHeld ?_ ?_
              rotate_left
              · rintro w' ⟨s0, s1, s2, s3, s4, s5, s6, s7, s8, s9, s10, s11, s12, s13, s14, s15, s16, s17⟩
                go_simp
                with_reducible rfl
              rotate_left
              · simp only [Act.put, List.setIfInBounds_toArray, List.set_cons_zero, List.set_cons_succ, i64_w, i32_w]
                rfl
              refine one_ (i := 9) (N := some 35) #[true, true, true, true, true, true, true, true, true, true, false, false] rfl rfl (one_of HT_.out (by kernel_rfl)) (by decide) (fun K hK => ?_)
              refine Kd.R_lit_step k60 _ 60 ?hg (N := 35) ?hd (xs := ([(⟨(⟨(rd_T60 t402 x7_1).f0.f0, (rd_T60 t402 x7_1).f0.f1, (rd_T60 t402 x7_1).f0.f2, (rd_T60 t402 x7_1).f0.f3, (rd_T60 t402 x7_1).f0.f4⟩ : S40), (rd_T60 t402 x7_1).f1, (rd_T60 t402 x7_1).f2, (⟨(rd_T60 t402 x7_1).f3.f0, (rd_T60 t402 x7_1).f3.f1⟩ : S58)⟩ : S60), (⟨(⟨(rd_T60 t402 x7_1).f0.f0, (rd_T60 t402 x7_1).f0.f1, (rd_T60 t402 x7_1).f0.f2, (rd_T60 t402 x7_1).f0.f3, (rd_T60 t402 x7_1).f0.f4⟩ : S40), (rd_T60 t402 x7_1).f1, (rd_T60 t402 x7_1).f2, (⟨(rd_T60 t402 x7_1).f3.f0, (rd_T60 t402 x7_1).f3.f1⟩ : S58)⟩ : S60)] : List (S60))) (inner := [.int .i64 ((rd_T60 t402 x7_1).f0.f0), .int .i64 ((rd_T60 t402 x7_1).f0.f1), .int .i64 ((rd_T60 t402 x7_1).f0.f2), .int .i64 ((rd_T60 t402 x7_1).f0.f3), .int .i64 ((rd_T60 t402 x7_1).f0.f4), .int .i64 ((rd_T60 t402 x7_1).f1), .int .i64 ((rd_T60 t402 x7_1).f2), .int .i64 ((rd_T60 t402 x7_1).f3.f0), .int .i64 ((rd_T60 t402 x7_1).f3.f1), .int .i64 ((rd_T60 t402 x7_1).f0.f0), .int .i64 ((rd_T60 t402 x7_1).f0.f1), .int .i64 ((rd_T60 t402 x7_1).f0.f2), .int .i64 ((rd_T60 t402 x7_1).f0.f3), .int .i64 ((rd_T60 t402 x7_1).f0.f4), .int .i64 ((rd_T60 t402 x7_1).f1), .int .i64 ((rd_T60 t402 x7_1).f2), .int .i64 ((rd_T60 t402 x7_1).f3.f0), .int .i64 ((rd_T60 t402 x7_1).f3.f1)]) (ok := fun _ => True) (okp := fun _ => True) ?hr ?hp (fun _ hk => hk) trivial (Below.refl _ _) (Nat.le_refl _) (by simp) ?_; (case hd => rfl); (case hg => rfl); (case hr => first | (go_simp; done) | (go_simp; rfl)); (case hp => exact (Reps.c9 (show Kd.M k60 _ _ _ (⟨(⟨(rd_T60 t402 x7_1).f0.f0, (rd_T60 t402 x7_1).f0.f1, (rd_T60 t402 x7_1).f0.f2, (rd_T60 t402 x7_1).f0.f3, (rd_T60 t402 x7_1).f0.f4⟩ : S40), (rd_T60 t402 x7_1).f1, (rd_T60 t402 x7_1).f2, (⟨(rd_T60 t402 x7_1).f3.f0, (rd_T60 t402 x7_1).f3.f1⟩ : S58)⟩ : S60) [.int .i64 ((rd_T60 t402 x7_1).f0.f0), .int .i64 ((rd_T60 t402 x7_1).f0.f1), .int .i64 ((rd_T60 t402 x7_1).f0.f2), .int .i64 ((rd_T60 t402 x7_1).f0.f3), .int .i64 ((rd_T60 t402 x7_1).f0.f4), .int .i64 ((rd_T60 t402 x7_1).f1), .int .i64 ((rd_T60 t402 x7_1).f2), .int .i64 ((rd_T60 t402 x7_1).f3.f0), .int .i64 ((rd_T60 t402 x7_1).f3.f1)] from (k60_mkM _ _ _ (⟨(⟨(rd_T60 t402 x7_1).f0.f0, (rd_T60 t402 x7_1).f0.f1, (rd_T60 t402 x7_1).f0.f2, (rd_T60 t402 x7_1).f0.f3, (rd_T60 t402 x7_1).f0.f4⟩ : S40), (rd_T60 t402 x7_1).f1, (rd_T60 t402 x7_1).f2, (⟨(rd_T60 t402 x7_1).f3.f0, (rd_T60 t402 x7_1).f3.f1⟩ : S58)⟩ : S60) )) (Reps.c9 (show Kd.M k60 _ _ _ (⟨(⟨(rd_T60 t402 x7_1).f0.f0, (rd_T60 t402 x7_1).f0.f1, (rd_T60 t402 x7_1).f0.f2, (rd_T60 t402 x7_1).f0.f3, (rd_T60 t402 x7_1).f0.f4⟩ : S40), (rd_T60 t402 x7_1).f1, (rd_T60 t402 x7_1).f2, (⟨(rd_T60 t402 x7_1).f3.f0, (rd_T60 t402 x7_1).f3.f1⟩ : S58)⟩ : S60) [.int .i64 ((rd_T60 t402 x7_1).f0.f0), .int .i64 ((rd_T60 t402 x7_1).f0.f1), .int .i64 ((rd_T60 t402 x7_1).f0.f2), .int .i64 ((rd_T60 t402 x7_1).f0.f3), .int .i64 ((rd_T60 t402 x7_1).f0.f4), .int .i64 ((rd_T60 t402 x7_1).f1), .int .i64 ((rd_T60 t402 x7_1).f2), .int .i64 ((rd_T60 t402 x7_1).f3.f0), .int .i64 ((rd_T60 t402 x7_1).f3.f1)] from (k60_mkM _ _ _ (⟨(⟨(rd_T60 t402 x7_1).f0.f0, (rd_T60 t402 x7_1).f0.f1, (rd_T60 t402 x7_1).f0.f2, (rd_T60 t402 x7_1).f0.f3, (rd_T60 t402 x7_1).f0.f4⟩ : S40), (rd_T60 t402 x7_1).f1, (rd_T60 t402 x7_1).f2, (⟨(rd_T60 t402 x7_1).f3.f0, (rd_T60 t402 x7_1).f3.f1⟩ : S58)⟩ : S60) )) (Reps.none _ _))))
              intro v408 w13 ho14 hb hg_ hnew_
              have HS0_ := (hb.cell (World.block_lt_of_cell? _ _ (hHeld.1))).trans (hHeld.1)
              have HS1_ := (hb.cell (World.block_lt_of_cell? _ _ (hHeld.2.1))).trans (hHeld.2.1)
              have HS2_ := (hb.cell (World.block_lt_of_cell? _ _ (hHeld.2.2.1))).trans (hHeld.2.2.1)
              have HS3_ := (hb.cell (World.block_lt_of_cell? _ _ (hHeld.2.2.2.1))).trans (hHeld.2.2.2.1)
              have HS4_ := (hb.cell (World.block_lt_of_cell? _ _ (hHeld.2.2.2.2.1))).trans (hHeld.2.2.2.2.1)
              have HS5_ := (hb.cell (World.block_lt_of_cell? _ _ (hHeld.2.2.2.2.2.1))).trans (hHeld.2.2.2.2.2.1)
              have HS6_ := (hb.cell (World.block_lt_of_cell? _ _ (hHeld.2.2.2.2.2.2.1))).trans (hHeld.2.2.2.2.2.2.1)
              have HS7_ := (hb.cell (World.block_lt_of_cell? _ _ (hHeld.2.2.2.2.2.2.2.1))).trans (hHeld.2.2.2.2.2.2.2.1)
              have HS8_ := (hb.cell (World.block_lt_of_cell? _ _ (hHeld.2.2.2.2.2.2.2.2.1))).trans (hHeld.2.2.2.2.2.2.2.2.1)
              have HS9_ := (hb.cell (World.block_lt_of_cell? _ _ (hHeld.2.2.2.2.2.2.2.2.2.1))).trans (hHeld.2.2.2.2.2.2.2.2.2.1)
              have HS10_ := (hb.cell (World.block_lt_of_cell? _ _ (hHeld.2.2.2.2.2.2.2.2.2.2.1))).trans (hHeld.2.2.2.2.2.2.2.2.2.2.1)
              have HS11_ := (hb.cell (World.block_lt_of_cell? _ _ (hHeld.2.2.2.2.2.2.2.2.2.2.2.1))).trans (hHeld.2.2.2.2.2.2.2.2.2.2.2.1)
              have HS12_ := (hb.cell (World.block_lt_of_cell? _ _ (hHeld.2.2.2.2.2.2.2.2.2.2.2.2.1))).trans (hHeld.2.2.2.2.2.2.2.2.2.2.2.2.1)
              have HS13_ := (hb.cell (World.block_lt_of_cell? _ _ (hHeld.2.2.2.2.2.2.2.2.2.2.2.2.2.1))).trans (hHeld.2.2.2.2.2.2.2.2.2.2.2.2.2.1)
              have HS14_ := (hb.cell (World.block_lt_of_cell? _ _ (hHeld.2.2.2.2.2.2.2.2.2.2.2.2.2.2.1))).trans (hHeld.2.2.2.2.2.2.2.2.2.2.2.2.2.2.1)
              have HS15_ := (hb.cell (World.block_lt_of_cell? _ _ (hHeld.2.2.2.2.2.2.2.2.2.2.2.2.2.2.2.1))).trans (hHeld.2.2.2.2.2.2.2.2.2.2.2.2.2.2.2.1)
              have HS16_ := (hb.cell (World.block_lt_of_cell? _ _ (hHeld.2.2.2.2.2.2.2.2.2.2.2.2.2.2.2.2.1))).trans (hHeld.2.2.2.2.2.2.2.2.2.2.2.2.2.2.2.2.1)
              have HS17_ := (hb.cell (World.block_lt_of_cell? _ _ (hHeld.2.2.2.2.2.2.2.2.2.2.2.2.2.2.2.2.2))).trans (hHeld.2.2.2.2.2.2.2.2.2.2.2.2.2.2.2.2.2)
              clear hg_ hnew_
              (first | rw [← Ny407.out] at ho14 | (simp only [Int.reduceToNat] at ho14; rw [← Ny407.out] at ho14))
              have n0_ := Aside0.mk (Kd.V_elder' (by (with_reducible repeat (first | apply Kd.V_alloc | apply Kd.V_drewN | apply Kd.V_drew)); exact HO_0.out) (Kd.R_base ho14) hb)
              have n1_ := Aside0.mk (Kd.V_elder' (by (with_reducible repeat (first | apply Kd.V_alloc | apply Kd.V_drewN | apply Kd.V_drew)); exact HO_1.out) (Kd.R_base ho14) hb)
              have n2_ := Aside0.mk (Kd.R_elder' (by (with_reducible repeat (first | apply Kd.R_alloc | apply Kd.R_drewN | apply Kd.R_drew)); exact HO_6.out) (Kd.R_base ho14) hb)
              have n3_ := Aside0.mk (Kd.R_lower (Kd.R_new' ho14 (Kd.R_lt (by (with_reducible repeat (first | apply Kd.R_alloc | apply Kd.R_drewN | apply Kd.R_drew)); exact HO_6.out))) (below_size (by repeat (first | (with_reducible first | exact HB.out | apply below_alloc | apply pw_below_drewN | apply below_drew1) | exact HB.out))))
              have n4_ := Aside0.mk (below_step (by repeat (first | (with_reducible first | exact HB.out | apply below_alloc | apply pw_below_drewN | apply below_drew1) | exact HB.out)) hb)
              clear HO_0
              clear HO_1
              clear HO_6
              clear HB
              have HO_0 := n0_
              have HO_1 := n1_
              have HO_6 := n2_
              have HO409 := n3_
              have HB := n4_
              clear n0_ n1_ n2_ n3_ n4_
              clear hb ho14
              obtain ⟨Ao16, co16, eo16⟩ := Kd.R_slice HO409.out
              (first | subst eo16 | (injection eo16 with f1_ f2_ f3_; have f4_ := f1_.symm; have f5_ := f3_.symm; clear f1_ f2_ f3_; subst f4_; subst f5_))
              refine hK.out _ _ ⟨HS0_, HS1_, HS2_, HS3_, HS4_, HS5_, HS6_, HS7_, HS8_, HS9_, HS10_, HS11_, HS12_, HS13_, HS14_, HS15_, HS16_, HS17_⟩ (fun hHeld => ?_)
              clear hK K
              refine norm_ (a' := ?_) ?_ ?_
              rotate_left
              · show Act.put _ (some 35) _ = _
                simp only [Act.put, List.setIfInBounds_toArray, List.set_cons_zero, List.set_cons_succ, i64_w, i32_w]
                rfl
              refine last_ (i := 10) (N := some 36) #[true, true, true, true, true, true, true, true, true, true, true, false] rfl rfl (one_of HT_.out (by kernel_rfl)) (by decide) (fun K hK => ?_)
              refine Kd.R_append_rows_step k60 (w0 := w) w.heap.size (by rfl) (.tmp 26) (.tmp 35) 48 60 (.agg #[(.int .i64 0), (.int .i64 0), (.int .i64 0), (.int .i64 0), (.int .i64 0), (.int .i64 0), (.int .i64 0), (.int .i64 0), (.int .i64 0)]) 72 rfl Try.underlying48 info60 rfl (by decide) (by omega) u6 x6_1 y407 _ _ _ (fun k_ => some k_ ≠ (.slice Ao16 y407.length co16 : Value).ownBlock) (fun _ => False) rfl rfl ?aO ?aR (fun _ _ h => h) (fun _ h => h.elim) ?aF ?aB ?aS ?aL ?_
              (case aR => repeat (first | exact (Kd.R_reads' HO409.out).2.2 | (with_reducible refine Kd.C_alloc ?_ _) | (with_reducible refine Kd.C_drewN ?_ _) | (with_reducible refine Kd.C_drew ?_)))
              (case aB => exact (by repeat (first | (with_reducible first | exact HB.out | apply below_alloc | apply pw_below_drewN | apply below_drew1) | exact HB.out)))
              (case aF => exact (fun k_ hk => Kd.fresh' (Kd.R_lt (by (with_reducible repeat (first | apply Kd.R_alloc | apply Kd.R_drewN | apply Kd.R_drew)); exact HO409.out)) k_ hk))
              (case aO => exact (by (with_reducible repeat (first | apply Kd.R_alloc | apply Kd.R_drewN | apply Kd.R_drew)); exact Kd.R_mono HO_6.out (fun _ hk => hk.2)))
              (case aS => exact (below_size (by repeat (first | (with_reducible first | exact HB.out | apply below_alloc | apply pw_below_drewN | apply below_drew1) | exact HB.out))))
              (case aL => have := LMc11.out; omega)
              intro v411 w15 ho hb hg hat
              rw [← Ny410.out] at ho
              have n0_ := Aside0.mk (Kd.V_afterv (ok := (fun k_ => some k_ ≠ (.slice Ao16 y407.length co16 : Value).ownBlock)) (by (with_reducible repeat (first | apply Kd.V_alloc | apply Kd.V_drewN | apply Kd.V_drew)); exact Kd.V_mono HO_0.out (fun _ hk => ⟨hk.2, hk.1⟩)) hg hat)
              have n1_ := Aside0.mk (Kd.V_afterv (ok := (fun k_ => some k_ ≠ (.slice Ao16 y407.length co16 : Value).ownBlock)) (by (with_reducible repeat (first | apply Kd.V_alloc | apply Kd.V_drewN | apply Kd.V_drew)); exact Kd.V_mono HO_1.out (fun _ hk => ⟨hk.2, hk.1⟩)) hg hat)
              have n2_ := Aside0.mk (Kd.R_after (ok := (fun _ => True)) (by (with_reducible repeat (first | apply Kd.R_alloc | apply Kd.R_drewN | apply Kd.R_drew)); exact HO409.out) hg hat)
              have n3_ := Aside0.mk (hb)
              have n4_ := Aside0.mk (ho)
              clear HO_0
              clear HO_1
              clear HO409
              clear HB
              clear HO_6
              have HO_0 := n0_
              have HO_1 := n1_
              have HO409 := n2_
              have HB := n3_
              have HO412 := n4_
              clear n0_ n1_ n2_ n3_ n4_
              clear ho hb hg hat
              refine hK.out _ _ ?_
              clear hK K
              refine norm_ (a' := ?_) ?_ ?_
              rotate_left
              · show Act.put _ (some 36) _ = _
                simp only [Act.put, List.setIfInBounds_toArray, List.set_cons_zero, List.set_cons_succ, i64_w, i32_w]
                rfl
              refine pure_ (i := 11) (N := some 6) (v := ?_) (a' := ?_) #[true, true, true, true, true, true, true, true, true, true, true, true] rfl rfl (any_of HT_.out (by kernel_rfl)) (fun _ _ _ h => h) (Or.inl ⟨by rfl, ?_⟩) ?_ ?_
              rotate_left
              · intro w'
                go_simp
                with_reducible rfl
              rotate_left
              · simp only [Act.put, List.setIfInBounds_toArray, List.set_cons_zero, List.set_cons_succ, i64_w, i32_w]
                rfl
              refine done_ (done_of HT_.out (by kernel_rfl)) ?_
              try go_wp2
              go_roundg k1
              case measure => have := HK1.out; omega
              case rel => exact ⟨(y410), (wrap64 (x7_1 - 1)), (by first | rfl | (simp; done) | (simp [*]; done)), H', ⟨by have := HK1.out; omega⟩, ⟨by (with_reducible repeat (first | apply Kd.V_alloc | apply Kd.V_drewN | apply Kd.V_drew)); exact Kd.V_mono HO_0.out (fun _ hk => hk.2)⟩, ⟨by (with_reducible repeat (first | apply Kd.V_alloc | apply Kd.V_drewN | apply Kd.V_drew)); exact Kd.V_mono HO_1.out (fun _ hk => hk.2)⟩, ⟨by (with_reducible repeat (first | apply Kd.R_alloc | apply Kd.R_drewN | apply Kd.R_drew)); exact Kd.R_mono HO412.out (fun _ hk => trivial)⟩, ⟨by repeat (first | (with_reducible first | exact HB.out | apply below_alloc | apply pw_below_drewN | apply below_drew1) | exact HB.out)⟩⟩
            · rw [if_neg c11] at H
              exact absurd H (by simp)
          · rw [if_neg c10] at H
            exact absurd H (by simp)
        · rw [if_neg c9] at H
          exact absurd H (by simp)
      · rw [if_neg c8] at H
        have c8b0 : decide (0 ≤ x7_1) = false := decide_eq_false c8
        clear c8
        replace H := Option.bind_eq_some_iff.mp H
        obtain ⟨⟨t413, t414⟩, A170, H⟩ := H
        replace H : ((columns_Bands.f t399 x6_1).bind fun bt417 => (if t398 = true then (if t414 = bt417.2 then ((purflingref13_Same.f k1 t413 bt417.1).bind fun t421 => (some t421)) else (some false)) else (some false))) = some r := H
        have A17 := Aside0.mk A170
        clear A170
        replace H := Option.bind_eq_some_iff.mp H
        obtain ⟨⟨t417, t418⟩, A180, H⟩ := H
        replace H : (if t398 = true then (if t414 = t418 then ((purflingref13_Same.f k1 t413 t417).bind fun t421 => (some t421)) else (some false)) else (some false)) = some r := H
        have A18 := Aside0.mk A180
        clear A180
        by_cases c19 : t398 = true
        · subst c19
          have H1 : (if t414 = t418 then ((purflingref13_Same.f k1 t413 t417).bind fun t421 => (some t421)) else (some false)) = some r := by rw [if_pos rfl] at H; exact H
          clear H
          have H := H1
          clear H1
          by_cases c20 : t414 = t418
          · rw [if_pos c20] at H
            have c20b0 : (t414 == t418) = true := beq_iff_eq.mpr c20
            have c20b1 : (t414 != t418) = false := bne_eq_false_iff_eq.mpr c20
            clear c20
            replace H := Option.bind_eq_some_iff.mp H
            obtain ⟨t421, A210, H⟩ := H
            replace H : (some t421) = some r := H
            have A21 := Aside0.mk A210
            clear A210
            obtain rfl := Option.some.inj H
            obtain ⟨Ao22, co22, eo22⟩ := Kd.V_slice HO_0.out
            subst eo22
            go_wp2_with (first | ((with_reducible refine gate_callee (f := 28) rfl ?_); refine goesL_ (some 40) rfl rfl Try.func28 (by kernel_rfl) rfl #[.slice Ao22 t399.length co22, .slice Ao7 t402.length co7] rfl (by (try simp only [List.map_toArray, List.map_cons, List.map_nil]); first | done | rfl | (simp only [List.length_drop, List.length_take]; rfl)) ?_; (with_reducible refine (columns_Bands.calls _ _ t399 _ _ t402 t413 t414 _ ?side1 ?side2 ?side3 ?side4 A17.out).mono ?_); (case side1 => repeat (first | exact (Kd.V_reads' HO_0.out).2.2 | (with_reducible refine Kd.C_alloc ?_ _) | (with_reducible refine Kd.C_drewN ?_ _) | (with_reducible refine Kd.C_drew ?_))); (case side2 => exact (Kd.V_reads' HO_0.out).2.1); (case side3 => repeat (first | exact (Kd.V_reads' HO_1.out).2.2 | (with_reducible refine Kd.C_alloc ?_ _) | (with_reducible refine Kd.C_drewN ?_ _) | (with_reducible refine Kd.C_drew ?_))); (case side4 => exact (Kd.V_reads' HO_1.out).2.1); rintro e w23 ⟨v415, rfl, ho0, hb⟩; refine ⟨_, rfl, ?_⟩; have n0_ := Aside0.mk (Kd.V_elder' (by (with_reducible repeat (first | apply Kd.V_alloc | apply Kd.V_drewN | apply Kd.V_drew)); exact HO_0.out) (Kd.R_base ho0) hb); have n1_ := Aside0.mk (Kd.V_elder' (by (with_reducible repeat (first | apply Kd.V_alloc | apply Kd.V_drewN | apply Kd.V_drew)); exact HO_1.out) (Kd.R_base ho0) hb); have n2_ := Aside0.mk (Kd.R_below (by (with_reducible repeat (first | apply Kd.R_alloc | apply Kd.R_drewN | apply Kd.R_drew)); exact HO_6.out) hb); have n3_ := Aside0.mk (Kd.R_lower ho0 (below_size (by repeat (first | (with_reducible first | exact HB.out | apply below_alloc | apply pw_below_drewN | apply below_drew1) | exact HB.out)))); have n4_ := Aside0.mk (below_step (by repeat (first | (with_reducible first | exact HB.out | apply below_alloc | apply pw_below_drewN | apply below_drew1) | exact HB.out)) hb); clear HO_0; clear HO_1; clear HO_6; clear HB; have HO_0 := n0_; have HO_1 := n1_; have HO_6 := n2_; have HO416 := n3_; have HB := n4_; clear n0_ n1_ n2_ n3_ n4_; (try clear hb); (try clear hb2); (try clear hk); (try clear hi); (try clear ho0); obtain ⟨Ao24, co24, eo24⟩ := Kd.R_slice HO_6.out; subst eo24) | ((with_reducible refine gate_callee (f := 28) rfl ?_); refine goesL_ (some 46) rfl rfl Try.func28 (by kernel_rfl) rfl #[.slice Ao22 t399.length co22, .slice Ao24 x6_1.length co24] rfl (by (try simp only [List.map_toArray, List.map_cons, List.map_nil]); first | done | rfl | (simp only [List.length_drop, List.length_take]; rfl)) ?_; (with_reducible refine (columns_Bands.calls _ _ t399 _ _ x6_1 t417 t418 _ ?side1 ?side2 ?side3 ?side4 A18.out).mono ?_); (case side1 => repeat (first | exact (Kd.V_reads' HO_0.out).2.2 | (with_reducible refine Kd.C_alloc ?_ _) | (with_reducible refine Kd.C_drewN ?_ _) | (with_reducible refine Kd.C_drew ?_))); (case side2 => exact (Kd.V_reads' HO_0.out).2.1); (case side3 => repeat (first | exact (Kd.R_reads' HO_6.out).2.2 | (with_reducible refine Kd.C_alloc ?_ _) | (with_reducible refine Kd.C_drewN ?_ _) | (with_reducible refine Kd.C_drew ?_))); (case side4 => exact (Kd.R_reads' HO_6.out).2.1); rintro e w25 ⟨v419, rfl, ho0, hb⟩; refine ⟨_, rfl, ?_⟩; have n0_ := Aside0.mk (Kd.V_elder' (by (with_reducible repeat (first | apply Kd.V_alloc | apply Kd.V_drewN | apply Kd.V_drew)); exact HO_0.out) (Kd.R_base ho0) hb); have n1_ := Aside0.mk (Kd.V_elder' (by (with_reducible repeat (first | apply Kd.V_alloc | apply Kd.V_drewN | apply Kd.V_drew)); exact HO_1.out) (Kd.R_base ho0) hb); have n2_ := Aside0.mk (Kd.R_below (by (with_reducible repeat (first | apply Kd.R_alloc | apply Kd.R_drewN | apply Kd.R_drew)); exact HO_6.out) hb); have n3_ := Aside0.mk (Kd.R_elder' (by (with_reducible repeat (first | apply Kd.R_alloc | apply Kd.R_drewN | apply Kd.R_drew)); exact HO416.out) (Kd.R_base ho0) hb); have n4_ := Aside0.mk (Kd.R_lower (Kd.R_new' ho0 (Kd.R_lt (by (with_reducible repeat (first | apply Kd.R_alloc | apply Kd.R_drewN | apply Kd.R_drew)); exact HO416.out))) (below_size (by repeat (first | (with_reducible first | exact HB.out | apply below_alloc | apply pw_below_drewN | apply below_drew1) | exact HB.out)))); have n5_ := Aside0.mk (below_step (by repeat (first | (with_reducible first | exact HB.out | apply below_alloc | apply pw_below_drewN | apply below_drew1) | exact HB.out)) hb); clear HO_0; clear HO_1; clear HO_6; clear HO416; clear HB; have HO_0 := n0_; have HO_1 := n1_; have HO_6 := n2_; have HO416 := n3_; have HO420 := n4_; have HB := n5_; clear n0_ n1_ n2_ n3_ n4_ n5_; (try clear hb); (try clear hb2); (try clear hk); (try clear hi); (try clear ho0); obtain ⟨Ao26, co26, eo26⟩ := Kd.R_slice HO416.out; subst eo26; obtain ⟨Ao27, co27, eo27⟩ := Kd.R_slice HO420.out; subst eo27) | (go_at_call 31; (with_reducible refine (purflingref13_Same.calls k1 _ _ t413 _ _ t417 t421 _ ?side1 ?side2 ?side3 ?side4 A21.out).mono ?_); (case side1 => repeat (first | exact (Kd.R_reads' HO416.out).2.2 | (with_reducible refine Kd.C_alloc ?_ _) | (with_reducible refine Kd.C_drewN ?_ _) | (with_reducible refine Kd.C_drew ?_))); (case side2 => exact (Kd.R_reads' HO416.out).2.1); (case side3 => repeat (first | exact (Kd.R_reads' HO420.out).2.2 | (with_reducible refine Kd.C_alloc ?_ _) | (with_reducible refine Kd.C_drewN ?_ _) | (with_reducible refine Kd.C_drew ?_))); (case side4 => exact (Kd.R_reads' HO420.out).2.1); rintro e w' ⟨rfl, ⟨nd, rfl⟩⟩))
            go_ret
            exact ⟨by first | rfl | (simp [errW_none, errW_some] <;> rfl) | (simp [*, errW_none, errW_some] <;> rfl), by repeat (first | (with_reducible first | exact HB.out | apply below_alloc | apply pw_below_drewN | apply below_drew1) | exact HB.out)⟩
          · rw [if_neg c20] at H
            have c20b0 : (t414 == t418) = false := beq_eq_false_iff_ne.mpr c20
            have c20b1 : (t414 != t418) = true := bne_iff_ne.mpr c20
            obtain rfl := Option.some.inj H
            obtain ⟨Ao28, co28, eo28⟩ := Kd.V_slice HO_0.out
            subst eo28
            go_wp2_with (first | ((with_reducible refine gate_callee (f := 28) rfl ?_); refine goesL_ (some 40) rfl rfl Try.func28 (by kernel_rfl) rfl #[.slice Ao28 t399.length co28, .slice Ao7 t402.length co7] rfl (by (try simp only [List.map_toArray, List.map_cons, List.map_nil]); first | done | rfl | (simp only [List.length_drop, List.length_take]; rfl)) ?_; (with_reducible refine (columns_Bands.calls _ _ t399 _ _ t402 t413 t414 _ ?side1 ?side2 ?side3 ?side4 A17.out).mono ?_); (case side1 => repeat (first | exact (Kd.V_reads' HO_0.out).2.2 | (with_reducible refine Kd.C_alloc ?_ _) | (with_reducible refine Kd.C_drewN ?_ _) | (with_reducible refine Kd.C_drew ?_))); (case side2 => exact (Kd.V_reads' HO_0.out).2.1); (case side3 => repeat (first | exact (Kd.V_reads' HO_1.out).2.2 | (with_reducible refine Kd.C_alloc ?_ _) | (with_reducible refine Kd.C_drewN ?_ _) | (with_reducible refine Kd.C_drew ?_))); (case side4 => exact (Kd.V_reads' HO_1.out).2.1); rintro e w29 ⟨v415, rfl, ho0, hb⟩; refine ⟨_, rfl, ?_⟩; have n0_ := Aside0.mk (Kd.V_elder' (by (with_reducible repeat (first | apply Kd.V_alloc | apply Kd.V_drewN | apply Kd.V_drew)); exact HO_0.out) (Kd.R_base ho0) hb); have n1_ := Aside0.mk (Kd.V_elder' (by (with_reducible repeat (first | apply Kd.V_alloc | apply Kd.V_drewN | apply Kd.V_drew)); exact HO_1.out) (Kd.R_base ho0) hb); have n2_ := Aside0.mk (Kd.R_below (by (with_reducible repeat (first | apply Kd.R_alloc | apply Kd.R_drewN | apply Kd.R_drew)); exact HO_6.out) hb); have n3_ := Aside0.mk (Kd.R_lower ho0 (below_size (by repeat (first | (with_reducible first | exact HB.out | apply below_alloc | apply pw_below_drewN | apply below_drew1) | exact HB.out)))); have n4_ := Aside0.mk (below_step (by repeat (first | (with_reducible first | exact HB.out | apply below_alloc | apply pw_below_drewN | apply below_drew1) | exact HB.out)) hb); clear HO_0; clear HO_1; clear HO_6; clear HB; have HO_0 := n0_; have HO_1 := n1_; have HO_6 := n2_; have HO416 := n3_; have HB := n4_; clear n0_ n1_ n2_ n3_ n4_; (try clear hb); (try clear hb2); (try clear hk); (try clear hi); (try clear ho0); obtain ⟨Ao30, co30, eo30⟩ := Kd.R_slice HO_6.out; subst eo30) | ((with_reducible refine gate_callee (f := 28) rfl ?_); refine goesL_ (some 46) rfl rfl Try.func28 (by kernel_rfl) rfl #[.slice Ao28 t399.length co28, .slice Ao30 x6_1.length co30] rfl (by (try simp only [List.map_toArray, List.map_cons, List.map_nil]); first | done | rfl | (simp only [List.length_drop, List.length_take]; rfl)) ?_; (with_reducible refine (columns_Bands.calls _ _ t399 _ _ x6_1 t417 t418 _ ?side1 ?side2 ?side3 ?side4 A18.out).mono ?_); (case side1 => repeat (first | exact (Kd.V_reads' HO_0.out).2.2 | (with_reducible refine Kd.C_alloc ?_ _) | (with_reducible refine Kd.C_drewN ?_ _) | (with_reducible refine Kd.C_drew ?_))); (case side2 => exact (Kd.V_reads' HO_0.out).2.1); (case side3 => repeat (first | exact (Kd.R_reads' HO_6.out).2.2 | (with_reducible refine Kd.C_alloc ?_ _) | (with_reducible refine Kd.C_drewN ?_ _) | (with_reducible refine Kd.C_drew ?_))); (case side4 => exact (Kd.R_reads' HO_6.out).2.1); rintro e w31 ⟨v419, rfl, ho0, hb⟩; refine ⟨_, rfl, ?_⟩; have n0_ := Aside0.mk (Kd.V_elder' (by (with_reducible repeat (first | apply Kd.V_alloc | apply Kd.V_drewN | apply Kd.V_drew)); exact HO_0.out) (Kd.R_base ho0) hb); have n1_ := Aside0.mk (Kd.V_elder' (by (with_reducible repeat (first | apply Kd.V_alloc | apply Kd.V_drewN | apply Kd.V_drew)); exact HO_1.out) (Kd.R_base ho0) hb); have n2_ := Aside0.mk (Kd.R_below (by (with_reducible repeat (first | apply Kd.R_alloc | apply Kd.R_drewN | apply Kd.R_drew)); exact HO_6.out) hb); have n3_ := Aside0.mk (Kd.R_elder' (by (with_reducible repeat (first | apply Kd.R_alloc | apply Kd.R_drewN | apply Kd.R_drew)); exact HO416.out) (Kd.R_base ho0) hb); have n4_ := Aside0.mk (Kd.R_lower (Kd.R_new' ho0 (Kd.R_lt (by (with_reducible repeat (first | apply Kd.R_alloc | apply Kd.R_drewN | apply Kd.R_drew)); exact HO416.out))) (below_size (by repeat (first | (with_reducible first | exact HB.out | apply below_alloc | apply pw_below_drewN | apply below_drew1) | exact HB.out)))); have n5_ := Aside0.mk (below_step (by repeat (first | (with_reducible first | exact HB.out | apply below_alloc | apply pw_below_drewN | apply below_drew1) | exact HB.out)) hb); clear HO_0; clear HO_1; clear HO_6; clear HO416; clear HB; have HO_0 := n0_; have HO_1 := n1_; have HO_6 := n2_; have HO416 := n3_; have HO420 := n4_; have HB := n5_; clear n0_ n1_ n2_ n3_ n4_ n5_; (try clear hb); (try clear hb2); (try clear hk); (try clear hi); (try clear ho0)))
            go_ret
            exact ⟨by first | rfl | (simp [errW_none, errW_some] <;> rfl) | (simp [*, errW_none, errW_some] <;> rfl), by repeat (first | (with_reducible first | exact HB.out | apply below_alloc | apply pw_below_drewN | apply below_drew1) | exact HB.out)⟩
        · replace c19 := Bool.eq_false_iff.mpr c19
          subst c19
          have H1 : (some false) = some r := by rw [if_neg (show ¬ (false = true) by decide)] at H; exact H
          clear H
          have H := H1
          clear H1
          obtain rfl := Option.some.inj H
          obtain ⟨Ao32, co32, eo32⟩ := Kd.V_slice HO_0.out
          subst eo32
          go_wp2_with (first | ((with_reducible refine gate_callee (f := 28) rfl ?_); refine goesL_ (some 40) rfl rfl Try.func28 (by kernel_rfl) rfl #[.slice Ao32 t399.length co32, .slice Ao7 t402.length co7] rfl (by (try simp only [List.map_toArray, List.map_cons, List.map_nil]); first | done | rfl | (simp only [List.length_drop, List.length_take]; rfl)) ?_; (with_reducible refine (columns_Bands.calls _ _ t399 _ _ t402 t413 t414 _ ?side1 ?side2 ?side3 ?side4 A17.out).mono ?_); (case side1 => repeat (first | exact (Kd.V_reads' HO_0.out).2.2 | (with_reducible refine Kd.C_alloc ?_ _) | (with_reducible refine Kd.C_drewN ?_ _) | (with_reducible refine Kd.C_drew ?_))); (case side2 => exact (Kd.V_reads' HO_0.out).2.1); (case side3 => repeat (first | exact (Kd.V_reads' HO_1.out).2.2 | (with_reducible refine Kd.C_alloc ?_ _) | (with_reducible refine Kd.C_drewN ?_ _) | (with_reducible refine Kd.C_drew ?_))); (case side4 => exact (Kd.V_reads' HO_1.out).2.1); rintro e w33 ⟨v415, rfl, ho0, hb⟩; refine ⟨_, rfl, ?_⟩; have n0_ := Aside0.mk (Kd.V_elder' (by (with_reducible repeat (first | apply Kd.V_alloc | apply Kd.V_drewN | apply Kd.V_drew)); exact HO_0.out) (Kd.R_base ho0) hb); have n1_ := Aside0.mk (Kd.V_elder' (by (with_reducible repeat (first | apply Kd.V_alloc | apply Kd.V_drewN | apply Kd.V_drew)); exact HO_1.out) (Kd.R_base ho0) hb); have n2_ := Aside0.mk (Kd.R_below (by (with_reducible repeat (first | apply Kd.R_alloc | apply Kd.R_drewN | apply Kd.R_drew)); exact HO_6.out) hb); have n3_ := Aside0.mk (Kd.R_lower ho0 (below_size (by repeat (first | (with_reducible first | exact HB.out | apply below_alloc | apply pw_below_drewN | apply below_drew1) | exact HB.out)))); have n4_ := Aside0.mk (below_step (by repeat (first | (with_reducible first | exact HB.out | apply below_alloc | apply pw_below_drewN | apply below_drew1) | exact HB.out)) hb); clear HO_0; clear HO_1; clear HO_6; clear HB; have HO_0 := n0_; have HO_1 := n1_; have HO_6 := n2_; have HO416 := n3_; have HB := n4_; clear n0_ n1_ n2_ n3_ n4_; (try clear hb); (try clear hb2); (try clear hk); (try clear hi); (try clear ho0); obtain ⟨Ao34, co34, eo34⟩ := Kd.R_slice HO_6.out; subst eo34) | ((with_reducible refine gate_callee (f := 28) rfl ?_); refine goesL_ (some 46) rfl rfl Try.func28 (by kernel_rfl) rfl #[.slice Ao32 t399.length co32, .slice Ao34 x6_1.length co34] rfl (by (try simp only [List.map_toArray, List.map_cons, List.map_nil]); first | done | rfl | (simp only [List.length_drop, List.length_take]; rfl)) ?_; (with_reducible refine (columns_Bands.calls _ _ t399 _ _ x6_1 t417 t418 _ ?side1 ?side2 ?side3 ?side4 A18.out).mono ?_); (case side1 => repeat (first | exact (Kd.V_reads' HO_0.out).2.2 | (with_reducible refine Kd.C_alloc ?_ _) | (with_reducible refine Kd.C_drewN ?_ _) | (with_reducible refine Kd.C_drew ?_))); (case side2 => exact (Kd.V_reads' HO_0.out).2.1); (case side3 => repeat (first | exact (Kd.R_reads' HO_6.out).2.2 | (with_reducible refine Kd.C_alloc ?_ _) | (with_reducible refine Kd.C_drewN ?_ _) | (with_reducible refine Kd.C_drew ?_))); (case side4 => exact (Kd.R_reads' HO_6.out).2.1); rintro e w35 ⟨v419, rfl, ho0, hb⟩; refine ⟨_, rfl, ?_⟩; have n0_ := Aside0.mk (Kd.V_elder' (by (with_reducible repeat (first | apply Kd.V_alloc | apply Kd.V_drewN | apply Kd.V_drew)); exact HO_0.out) (Kd.R_base ho0) hb); have n1_ := Aside0.mk (Kd.V_elder' (by (with_reducible repeat (first | apply Kd.V_alloc | apply Kd.V_drewN | apply Kd.V_drew)); exact HO_1.out) (Kd.R_base ho0) hb); have n2_ := Aside0.mk (Kd.R_below (by (with_reducible repeat (first | apply Kd.R_alloc | apply Kd.R_drewN | apply Kd.R_drew)); exact HO_6.out) hb); have n3_ := Aside0.mk (Kd.R_elder' (by (with_reducible repeat (first | apply Kd.R_alloc | apply Kd.R_drewN | apply Kd.R_drew)); exact HO416.out) (Kd.R_base ho0) hb); have n4_ := Aside0.mk (Kd.R_lower (Kd.R_new' ho0 (Kd.R_lt (by (with_reducible repeat (first | apply Kd.R_alloc | apply Kd.R_drewN | apply Kd.R_drew)); exact HO416.out))) (below_size (by repeat (first | (with_reducible first | exact HB.out | apply below_alloc | apply pw_below_drewN | apply below_drew1) | exact HB.out)))); have n5_ := Aside0.mk (below_step (by repeat (first | (with_reducible first | exact HB.out | apply below_alloc | apply pw_below_drewN | apply below_drew1) | exact HB.out)) hb); clear HO_0; clear HO_1; clear HO_6; clear HO416; clear HB; have HO_0 := n0_; have HO_1 := n1_; have HO_6 := n2_; have HO416 := n3_; have HO420 := n4_; have HB := n5_; clear n0_ n1_ n2_ n3_ n4_ n5_; (try clear hb); (try clear hb2); (try clear hk); (try clear hi); (try clear ho0)))
          go_ret
          exact ⟨by first | rfl | (simp [errW_none, errW_some] <;> rfl) | (simp [*, errW_none, errW_some] <;> rfl), by repeat (first | (with_reducible first | exact HB.out | apply below_alloc | apply pw_below_drewN | apply below_drew1) | exact HB.out)⟩

end Go.Proofs.Ytfoocmmjefdojaa.K
