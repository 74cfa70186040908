-- PRINTED by print.py (a twelfth state) out of the translation. Not trusted: Lean checks it.
import Derived.Test.YtfoocmmjefdojaaGrid
import Derived.Test.YtfoocmmjefdojaaSlots
import Derived.Test.YtfoocmmjefdojaaK0
import Derived.Test.YtfoocmmjefdojaaK1
import Derived.Test.YtfoocmmjefdojaaK4
namespace Go.Proofs.Ytfoocmmjefdojaa.K
open Go.RowKit Go.Proofs.YtfoocmmjefdojaaW.PrintWords Go.Proofs.YtfoocmmjefdojaaW.PrintLast Go.Proofs.YtfoocmmjefdojaaW.PrintMore
attribute [local go_sem] max2_int min2_int max_two min_two max_three min_three max_four min_four   -- for this text's walks alone
set_option linter.unusedVariables false
set_option linter.unusedSimpArgs false

attribute [local go_sem high] eqA40
/-! ### purflinglaw07_GridPlain: function 8 -/
mutual
def purflinglaw07_GridPlain.j0 : Nat → Int → Int → Bool → Bool → Option (Bool)
  | 0, _, _, _, _ => none
  | k + 1, x0, x1, x5, x30 => if x30 = true then (some x5) else (if 0 ≤ x0 then (if (x0 : Int).toNat ≤ 11728124029610 then (if (x0 : Int).toNat ≤ 35184372088832 then (purflinglaw07_GridPlain.l0 k x0 x1 x5 (List.replicate (x0 : Int).toNat []) (List.replicate (x0 : Int).toNat 0) 0) else (none)) else (none)) else (none))
def purflinglaw07_GridPlain.l0 : Nat → Int → Int → Bool → List (List (S34)) → List Int → Int → Option (Bool)
  | 0, _, _, _, _, _, _ => none
  | k + 1, x0, x1, x5, x6, x7, x8 => if x8 < x0 then (if 0 ≤ x8 then (if x8 < (x7.length : Int) then (purflinglaw07_GridPlain.l1 k x0 x1 x5 x6 (x7.set (x8 : Int).toNat x0) x8 0) else (none)) else (none)) else ((grid_Lay.f x6 x7).bind fun bt316 => (if bt316.2.2 = 0 then (if (bt316.1.length : Int) = (wrap64 (x0 * x1)) then (if bt316.2.1 = x1 then (purflinglaw07_GridPlain.j3 k x0 x1 x5 bt316.1 bt316.2.1 false) else (purflinglaw07_GridPlain.j3 k x0 x1 x5 bt316.1 bt316.2.1 (decide (x0 > 0)))) else (purflinglaw07_GridPlain.j3 k x0 x1 x5 bt316.1 bt316.2.1 true)) else (purflinglaw07_GridPlain.j3 k x0 x1 x5 bt316.1 bt316.2.1 true)))
def purflinglaw07_GridPlain.l1 : Nat → Int → Int → Bool → List (List (S34)) → List Int → Int → Int → Option (Bool)
  | 0, _, _, _, _, _, _, _ => none
  | k + 1, x0, x1, x5, x6, x7, x8, x9 => if x9 < x1 then (if 0 ≤ x8 then (if x8 < (x6.length : Int) then (if (rd_L2 x6 x8).length < 5864062014805 then (purflinglaw07_GridPlain.l1 k x0 x1 x5 (x6.set (x8 : Int).toNat ((rd_L2 x6 x8) ++ [(⟨wrap64 ((wrap64 (100 * x8)) + x9), 1, 1⟩ : S34)])) x7 x8 (wrap64 (x9 + 1))) else (none)) else (none)) else (none)) else (purflinglaw07_GridPlain.l0 k x0 x1 x5 x6 x7 (wrap64 (x8 + 1)))
def purflinglaw07_GridPlain.j3 : Nat → Int → Int → Bool → List (S40) → Int → Bool → Option (Bool)
  | 0, _, _, _, _, _, _ => none
  | k + 1, x0, x1, x5, x10, x11, x89 => if x89 = true then (some false) else (purflinglaw07_GridPlain.l2 k x0 x1 x5 x10 x11 0)
def purflinglaw07_GridPlain.l2 : Nat → Int → Int → Bool → List (S40) → Int → Int → Option (Bool)
  | 0, _, _, _, _, _, _ => none
  | k + 1, x0, x1, x5, x10, x11, x13 => if x13 < (x10.length : Int) then (if 0 ≤ x13 then (if x1 = 0 then (none) else (if (!(((rd_T40 x10 x13).f0) == (wrap64 ((wrap64 (100 * (wrap64 (Int.tdiv x13 x1)))) + (Int.tmod x13 x1)))) || (!(((rd_T40 x10 x13).f1) == (wrap64 (Int.tdiv x13 x1))) || (!(((rd_T40 x10 x13).f2) == (Int.tmod x13 x1)) || (!(((rd_T40 x10 x13).f3) == 1) || (!(((rd_T40 x10 x13).f4) == 1)))))) = true then (some false) else (purflinglaw07_GridPlain.l2 k x0 x1 x5 x10 x11 (wrap64 (x13 + 1))))) else (none)) else ((grid_Empty.f x10 x0 x11).bind fun bt322 => (if x5 = true then (if bt322.2 = 0 then (some ((bt322.1.length : Int) == 0)) else (some false)) else (some false)))
end
def purflinglaw07_GridPlain.f (k : Nat) (a0 : Int) (a1 : Int) : Option (Bool) := (purflinglaw07_shown.f k).bind fun t303 => (if a0 < 0 then (purflinglaw07_GridPlain.j0 k a0 a1 t303 true) else (if a0 > 50 then (purflinglaw07_GridPlain.j0 k a0 a1 t303 true) else (if a1 < 0 then (purflinglaw07_GridPlain.j0 k a0 a1 t303 true) else (purflinglaw07_GridPlain.j0 k a0 a1 t303 (decide (a1 > 50))))))
theorem purflinglaw07_GridPlain.mono_l : ∀ k, (∀ y0 y1 y2 y3, LeO (purflinglaw07_GridPlain.j0 k y0 y1 y2 y3) (purflinglaw07_GridPlain.j0 (k + 1) y0 y1 y2 y3)) ∧ (∀ y0 y1 y2 y3 y4 y5, LeO (purflinglaw07_GridPlain.l0 k y0 y1 y2 y3 y4 y5) (purflinglaw07_GridPlain.l0 (k + 1) y0 y1 y2 y3 y4 y5)) ∧ (∀ y0 y1 y2 y3 y4 y5 y6, LeO (purflinglaw07_GridPlain.l1 k y0 y1 y2 y3 y4 y5 y6) (purflinglaw07_GridPlain.l1 (k + 1) y0 y1 y2 y3 y4 y5 y6)) ∧ (∀ y0 y1 y2 y3 y4 y5, LeO (purflinglaw07_GridPlain.j3 k y0 y1 y2 y3 y4 y5) (purflinglaw07_GridPlain.j3 (k + 1) y0 y1 y2 y3 y4 y5)) ∧ (∀ y0 y1 y2 y3 y4 y5, LeO (purflinglaw07_GridPlain.l2 k y0 y1 y2 y3 y4 y5) (purflinglaw07_GridPlain.l2 (k + 1) y0 y1 y2 y3 y4 y5))
  | 0 => ⟨fun _ _ _ _ r h => by simp [purflinglaw07_GridPlain.j0] at h, fun _ _ _ _ _ _ r h => by simp [purflinglaw07_GridPlain.l0] at h, fun _ _ _ _ _ _ _ r h => by simp [purflinglaw07_GridPlain.l1] at h, fun _ _ _ _ _ _ r h => by simp [purflinglaw07_GridPlain.j3] at h, fun _ _ _ _ _ _ r h => by simp [purflinglaw07_GridPlain.l2] at h⟩
  | k + 1 => by
    obtain ⟨ih0, ih1, ih2, ih3, ih4⟩ := purflinglaw07_GridPlain.mono_l k
    refine ⟨?_, ?_, ?_, ?_, ?_⟩
    · intro y0 y1 y2 y3
      unfold purflinglaw07_GridPlain.j0
      repeat' first
      | (with_reducible exact ih0 _ _ _ _)
      | (with_reducible exact ih1 _ _ _ _ _ _)
      | (with_reducible exact ih2 _ _ _ _ _ _ _)
      | (with_reducible exact ih3 _ _ _ _ _ _)
      | (with_reducible exact ih4 _ _ _ _ _ _)
      | (with_reducible exact purflinglaw07_shown.mono _)
      | (with_reducible exact LeO.refl _)
      | (with_reducible exact LeO.none _)
      | (with_reducible refine LeO.ite ?_ ?_)
      | (with_reducible refine LeO.bind ?_ (fun _ => ?_))
      | exact ih0 _ _ _ _
      | exact ih1 _ _ _ _ _ _
      | exact ih2 _ _ _ _ _ _ _
      | exact ih3 _ _ _ _ _ _
      | exact ih4 _ _ _ _ _ _
      | exact purflinglaw07_shown.mono _
      | exact LeO.none _
      | refine LeO.ite ?_ ?_
      | refine LeO.bind ?_ (fun _ => ?_)
    · intro y0 y1 y2 y3 y4 y5
      unfold purflinglaw07_GridPlain.l0
      repeat' first
      | (with_reducible exact ih0 _ _ _ _)
      | (with_reducible exact ih1 _ _ _ _ _ _)
      | (with_reducible exact ih2 _ _ _ _ _ _ _)
      | (with_reducible exact ih3 _ _ _ _ _ _)
      | (with_reducible exact ih4 _ _ _ _ _ _)
      | (with_reducible exact purflinglaw07_shown.mono _)
      | (with_reducible exact LeO.refl _)
      | (with_reducible exact LeO.none _)
      | (with_reducible refine LeO.ite ?_ ?_)
      | (with_reducible refine LeO.bind ?_ (fun _ => ?_))
      | exact ih0 _ _ _ _
      | exact ih1 _ _ _ _ _ _
      | exact ih2 _ _ _ _ _ _ _
      | exact ih3 _ _ _ _ _ _
      | exact ih4 _ _ _ _ _ _
      | exact purflinglaw07_shown.mono _
      | exact LeO.none _
      | refine LeO.ite ?_ ?_
      | refine LeO.bind ?_ (fun _ => ?_)
    · intro y0 y1 y2 y3 y4 y5 y6
      unfold purflinglaw07_GridPlain.l1
      repeat' first
      | (with_reducible exact ih0 _ _ _ _)
      | (with_reducible exact ih1 _ _ _ _ _ _)
      | (with_reducible exact ih2 _ _ _ _ _ _ _)
      | (with_reducible exact ih3 _ _ _ _ _ _)
      | (with_reducible exact ih4 _ _ _ _ _ _)
      | (with_reducible exact purflinglaw07_shown.mono _)
      | (with_reducible exact LeO.refl _)
      | (with_reducible exact LeO.none _)
      | (with_reducible refine LeO.ite ?_ ?_)
      | (with_reducible refine LeO.bind ?_ (fun _ => ?_))
      | exact ih0 _ _ _ _
      | exact ih1 _ _ _ _ _ _
      | exact ih2 _ _ _ _ _ _ _
      | exact ih3 _ _ _ _ _ _
      | exact ih4 _ _ _ _ _ _
      | exact purflinglaw07_shown.mono _
      | exact LeO.none _
      | refine LeO.ite ?_ ?_
      | refine LeO.bind ?_ (fun _ => ?_)
    · intro y0 y1 y2 y3 y4 y5
      unfold purflinglaw07_GridPlain.j3
      repeat' first
      | (with_reducible exact ih0 _ _ _ _)
      | (with_reducible exact ih1 _ _ _ _ _ _)
      | (with_reducible exact ih2 _ _ _ _ _ _ _)
      | (with_reducible exact ih3 _ _ _ _ _ _)
      | (with_reducible exact ih4 _ _ _ _ _ _)
      | (with_reducible exact purflinglaw07_shown.mono _)
      | (with_reducible exact LeO.refl _)
      | (with_reducible exact LeO.none _)
      | (with_reducible refine LeO.ite ?_ ?_)
      | (with_reducible refine LeO.bind ?_ (fun _ => ?_))
      | exact ih0 _ _ _ _
      | exact ih1 _ _ _ _ _ _
      | exact ih2 _ _ _ _ _ _ _
      | exact ih3 _ _ _ _ _ _
      | exact ih4 _ _ _ _ _ _
      | exact purflinglaw07_shown.mono _
      | exact LeO.none _
      | refine LeO.ite ?_ ?_
      | refine LeO.bind ?_ (fun _ => ?_)
    · intro y0 y1 y2 y3 y4 y5
      unfold purflinglaw07_GridPlain.l2
      repeat' first
      | (with_reducible exact ih0 _ _ _ _)
      | (with_reducible exact ih1 _ _ _ _ _ _)
      | (with_reducible exact ih2 _ _ _ _ _ _ _)
      | (with_reducible exact ih3 _ _ _ _ _ _)
      | (with_reducible exact ih4 _ _ _ _ _ _)
      | (with_reducible exact purflinglaw07_shown.mono _)
      | (with_reducible exact LeO.refl _)
      | (with_reducible exact LeO.none _)
      | (with_reducible refine LeO.ite ?_ ?_)
      | (with_reducible refine LeO.bind ?_ (fun _ => ?_))
      | exact ih0 _ _ _ _
      | exact ih1 _ _ _ _ _ _
      | exact ih2 _ _ _ _ _ _ _
      | exact ih3 _ _ _ _ _ _
      | exact ih4 _ _ _ _ _ _
      | exact purflinglaw07_shown.mono _
      | exact LeO.none _
      | refine LeO.ite ?_ ?_
      | refine LeO.bind ?_ (fun _ => ?_)
theorem purflinglaw07_GridPlain.mono : ∀ a0 a1 k, LeO (purflinglaw07_GridPlain.f k a0 a1) (purflinglaw07_GridPlain.f (k + 1) a0 a1) := by
  intro a0 a1 k
  obtain ⟨ih0, ih1, ih2, ih3, ih4⟩ := purflinglaw07_GridPlain.mono_l k
  unfold purflinglaw07_GridPlain.f
  repeat' first
      | (with_reducible exact ih0 _ _ _ _)
      | (with_reducible exact ih1 _ _ _ _ _ _)
      | (with_reducible exact ih2 _ _ _ _ _ _ _)
      | (with_reducible exact ih3 _ _ _ _ _ _)
      | (with_reducible exact ih4 _ _ _ _ _ _)
      | (with_reducible exact purflinglaw07_shown.mono _)
      | (with_reducible exact LeO.refl _)
      | (with_reducible exact LeO.none _)
      | (with_reducible refine LeO.ite ?_ ?_)
      | (with_reducible refine LeO.bind ?_ (fun _ => ?_))
      | exact ih0 _ _ _ _
      | exact ih1 _ _ _ _ _ _
      | exact ih2 _ _ _ _ _ _ _
      | exact ih3 _ _ _ _ _ _
      | exact ih4 _ _ _ _ _ _
      | exact purflinglaw07_shown.mono _
      | exact LeO.none _
      | refine LeO.ite ?_ ?_
      | refine LeO.bind ?_ (fun _ => ?_)
set_option maxHeartbeats 8000000 in
set_option maxRecDepth 100000 in
theorem purflinglaw07_GridPlain.calls (k : Nat) (a0 : Int) (a1 : Int) (r : Bool) (w : World) (h : purflinglaw07_GridPlain.f k a0 a1 = some r) :
    Calls Try.prog 8 #[.int .i64 a0, .int .i64 a1] w fun e w' => e = .returned (.bool r) ∧ Below w.heap.size w w' := by
  have hu34 := Try.underlying34
  have hu40 := Try.underlying40
  have HB := Aside0.mk (Below.refl w.heap.size w)
  have H : ((purflinglaw07_shown.f k).bind fun t303 => (if a0 < 0 then (purflinglaw07_GridPlain.j0 k a0 a1 t303 true) else (if a0 > 50 then (purflinglaw07_GridPlain.j0 k a0 a1 t303 true) else (if a1 < 0 then (purflinglaw07_GridPlain.j0 k a0 a1 t303 true) else (purflinglaw07_GridPlain.j0 k a0 a1 t303 (decide (a1 > 50))))))) = some r := h
  clear h
  replace H := Option.bind_eq_some_iff.mp H
  obtain ⟨t303, A30, H⟩ := H
  replace H : (if a0 < 0 then (purflinglaw07_GridPlain.j0 k a0 a1 t303 true) else (if a0 > 50 then (purflinglaw07_GridPlain.j0 k a0 a1 t303 true) else (if a1 < 0 then (purflinglaw07_GridPlain.j0 k a0 a1 t303 true) else (purflinglaw07_GridPlain.j0 k a0 a1 t303 (decide (a1 > 50)))))) = some r := H
  have A3 := Aside0.mk A30
  clear A30
  have HC4 := Aside0.mk H
  clear H
  go_enter Try.func8, Try.ntmps8
  go_upto_region 2 with (first | (go_at_call 15; (with_reducible refine (purflinglaw07_shown.calls k  t303 _ A3.out).mono ?_); rintro e w5 ⟨rfl, hb⟩; have n0_ := Aside0.mk (below_step (by repeat (first | (with_reducible first | exact HB.out | apply below_alloc | apply pw_below_drewN | apply below_drew1) | exact HB.out)) hb); clear HB; have HB := n0_; clear n0_; (try clear hb); (try clear hb2); (try clear hk); (try clear hi)))
  repeat (go_quiet (first | (go_at_call 15; (with_reducible refine (purflinglaw07_shown.calls k  t303 _ A3.out).mono ?_); rintro e w5 ⟨rfl, hb⟩; have n0_ := Aside0.mk (below_step (by repeat (first | (with_reducible first | exact HB.out | apply below_alloc | apply pw_below_drewN | apply below_drew1) | exact HB.out)) hb); clear HB; have HB := n0_; clear n0_; (try clear hb); (try clear hb2); (try clear hk); (try clear hi))); go_upto_region 2 with (first | (go_at_call 15; (with_reducible refine (purflinglaw07_shown.calls k  t303 _ A3.out).mono ?_); rintro e w5 ⟨rfl, hb⟩; have n0_ := Aside0.mk (below_step (by repeat (first | (with_reducible first | exact HB.out | apply below_alloc | apply pw_below_drewN | apply below_drew1) | exact HB.out)) hb); clear HB; have HB := n0_; clear n0_; (try clear hb); (try clear hb2); (try clear hk); (try clear hi))))
  (try simp only [Act.put, List.setIfInBounds_toArray, List.set_cons_zero, List.set_cons_succ])
  go_cut [30] (fun v30 wc => ∃ (kq : Nat) (x30_3 : Bool), v30 = .bool x30_3 ∧ Aside0 (purflinglaw07_GridPlain.j0 kq a0 a1 t303 x30_3 = some r) ∧ Aside0 (kq ≤ k) ∧ Aside0 (Below w.heap.size w wc))
  case first =>
    have H := HC4.out
    clear HC4
    by_cases c6 : a0 < 0
    · rw [if_pos c6] at H
      have c6b0 : decide (a0 < 0) = true := decide_eq_true c6
      clear c6
      (first | rw [c6b0] | (simp only [i64_w, i32_w]; rw [c6b0]) | skip)
      have H' := Aside0.mk H
      clear H
      go_wp2
      repeat (go_quiet (fail); try go_wp2)
      go_meet
      case rel => exact ⟨_, (true), (by first | rfl | (simp; done) | (simp [*]; done)), H', ⟨by first | omega | exact Nat.le_refl _⟩, ⟨by repeat (first | (with_reducible first | exact HB.out | apply below_alloc | apply pw_below_drewN | apply below_drew1) | exact HB.out)⟩⟩
    · rw [if_neg c6] at H
      have c6b0 : decide (a0 < 0) = false := decide_eq_false c6
      clear c6
      (first | rw [c6b0] | (simp only [i64_w, i32_w]; rw [c6b0]) | skip)
      by_cases c7 : a0 > 50
      · rw [if_pos c7] at H
        have c7b0 : decide (50 < a0) = true := decide_eq_true c7
        clear c7
        have H' := Aside0.mk H
        clear H
        go_wp2
        repeat (go_quiet (fail); try go_wp2)
        go_meet
        case rel => exact ⟨_, (true), (by first | rfl | (simp; done) | (simp [*]; done)), H', ⟨by first | omega | exact Nat.le_refl _⟩, ⟨by repeat (first | (with_reducible first | exact HB.out | apply below_alloc | apply pw_below_drewN | apply below_drew1) | exact HB.out)⟩⟩
      · rw [if_neg c7] at H
        have c7b0 : decide (50 < a0) = false := decide_eq_false c7
        clear c7
        by_cases c8 : a1 < 0
        · rw [if_pos c8] at H
          have c8b0 : decide (a1 < 0) = true := decide_eq_true c8
          clear c8
          have H' := Aside0.mk H
          clear H
          go_wp2
          repeat (go_quiet (fail); try go_wp2)
          go_meet
          case rel => exact ⟨_, (true), (by first | rfl | (simp; done) | (simp [*]; done)), H', ⟨by first | omega | exact Nat.le_refl _⟩, ⟨by repeat (first | (with_reducible first | exact HB.out | apply below_alloc | apply pw_below_drewN | apply below_drew1) | exact HB.out)⟩⟩
        · rw [if_neg c8] at H
          have c8b0 : decide (a1 < 0) = false := decide_eq_false c8
          clear c8
          have H' := Aside0.mk H
          clear H
          go_wp2
          repeat (go_quiet (fail); try go_wp2)
          go_meet
          case rel => exact ⟨_, (decide (a1 > 50)), (by first | rfl | (simp; done) | (simp [*]; done)), H', ⟨by first | omega | exact Nat.le_refl _⟩, ⟨by repeat (first | (with_reducible first | exact HB.out | apply below_alloc | apply pw_below_drewN | apply below_drew1) | exact HB.out)⟩⟩
  case rest =>
    clear HC4
    try clear p2
    try clear c6
    try clear c6b0
    try clear c7
    try clear c7b0
    try clear c8
    try clear c8b0
    obtain ⟨kq, x30_3, rfl, HA, HJ3, HB⟩ := hcut
    cases kq with
    | zero => exact absurd HA.out (by simp [purflinglaw07_GridPlain.j0])
    | succ kj3 =>
      have H := HA.out
      clear HA
      simp only [purflinglaw07_GridPlain.j0] at H
      by_cases c9 : x30_3 = true
      · subst c9
        have H1 : (some t303) = some r := by rw [if_pos rfl] at H; exact H
        clear H
        have H := H1
        clear H1
        obtain rfl := Option.some.inj H
        go_wp2
        repeat (go_quiet (fail); try go_wp2)
        go_ret
        exact ⟨by first | rfl | (simp [errW_none, errW_some] <;> rfl) | (simp [*, errW_none, errW_some] <;> rfl), by repeat (first | (with_reducible first | exact HB.out | apply below_alloc | apply pw_below_drewN | apply below_drew1) | exact HB.out)⟩
      · replace c9 := Bool.eq_false_iff.mpr c9
        subst c9
        have H1 : (if 0 ≤ a0 then (if (a0 : Int).toNat ≤ 11728124029610 then (if (a0 : Int).toNat ≤ 35184372088832 then (purflinglaw07_GridPlain.l0 kj3 a0 a1 t303 (List.replicate (a0 : Int).toNat []) (List.replicate (a0 : Int).toNat 0) 0) else (none)) else (none)) else (none)) = some r := by rw [if_neg (show ¬ (false = true) by decide)] at H; exact H
        clear H
        have H := H1
        clear H1
        by_cases c10 : 0 ≤ a0
        · rw [if_pos c10] at H
          have c10b0 := eq_true c10
          have c10b1 : decide (0 ≤ a0) = true := decide_eq_true c10
          clear c10
          by_cases c11 : (a0 : Int).toNat ≤ 11728124029610
          · rw [if_pos c11] at H
            have c11b0 := eq_true c11
            have c11b1 : decide ((a0 : Int).toNat ≤ 11728124029610) = true := decide_eq_true c11
            clear c11
            obtain ⟨y304, hy304⟩ : ∃ y_ : List (List (S34)), y_ = (List.replicate (a0 : Int).toNat []) := ⟨_, rfl⟩
            replace H : (if (a0 : Int).toNat ≤ 35184372088832 then (purflinglaw07_GridPlain.l0 kj3 a0 a1 t303 y304 (List.replicate (a0 : Int).toNat 0) 0) else (none)) = some r := by first | (rw [hy304]; with_reducible exact H) | (have H2_ := (Option.bind_some _ _).symm.trans H; rw [hy304]; with_reducible exact H2_) | (have H2_ := (Option.bind_some _ _).symm.trans H; with_reducible exact H2_) | with_reducible exact H | (rw [hy304]; exact H) | exact H
            have Ny304 := Aside0.mk hy304
            clear hy304
            by_cases c12 : (a0 : Int).toNat ≤ 35184372088832
            · rw [if_pos c12] at H
              have c12b0 := eq_true c12
              have c12b1 : decide ((a0 : Int).toNat ≤ 35184372088832) = true := decide_eq_true c12
              clear c12
              obtain ⟨y307, hy307⟩ : ∃ y_ : List Int, y_ = (List.replicate (a0 : Int).toNat 0) := ⟨_, rfl⟩
              replace H : (purflinglaw07_GridPlain.l0 kj3 a0 a1 t303 y304 y307 0) = some r := by first | (rw [hy307]; with_reducible exact H) | (have H2_ := (Option.bind_some _ _).symm.trans H; rw [hy307]; with_reducible exact H2_) | (have H2_ := (Option.bind_some _ _).symm.trans H; with_reducible exact H2_) | with_reducible exact H | (rw [hy307]; exact H) | exact H
              have Ny307 := Aside0.mk hy307
              clear hy307
              have H' := Aside0.mk H
              clear H
              go_wp2_with (first | ((with_reducible refine gate_dst (N := 33) rfl ?_); (try (refine gate_guard (by rfl) ?_; dsimp only)); refine Kd.S_make (Kd.slice 34 k34) _ 32 rfl (N := 33) rfl 22 _ _ rfl a0 rfl rfl Try.underlying22 (.slice none 0 0) 24 info32 rfl (by decide) (by omega) [] (ok := fun _ => True) (okp := fun _ => True) ⟨_, rfl, Kd.R_nil _ _ _ _ _⟩ (fun _ hk => hk) trivial (of_decide_eq_true (by first | (with_reducible assumption) | assumption)) (Nat.le_trans (Nat.mul_le_mul_right _ (of_decide_eq_true (by first | (with_reducible assumption) | assumption) : a0.toNat ≤ 11728124029610)) (by omega)) (Below.refl _ _) (Nat.le_refl _) ?_; intro v305 w13 ho14 hb hg_ hnew_; clear hg_ hnew_; (first | rw [← Ny304.out] at ho14 | (simp only [Int.reduceToNat] at ho14; rw [← Ny304.out] at ho14)); have n0_ := Aside0.mk (Kd.S_lower ho14 (below_size (by repeat (first | (with_reducible first | exact HB.out | apply below_alloc | apply pw_below_drewN | apply below_drew1) | exact HB.out)))); have n1_ := Aside0.mk (below_step (by repeat (first | (with_reducible first | exact HB.out | apply below_alloc | apply pw_below_drewN | apply below_drew1) | exact HB.out)) hb); clear HB; have HO306 := n0_; have HB := n1_; clear n0_ n1_; clear hb ho14) | ((with_reducible refine gate_dst (N := 35) rfl ?_); (try (refine gate_guard (by rfl) ?_; dsimp only)); refine Kd.R_make (Kd.int .i64) _ 3 rfl (N := 35) rfl 23 _ _ rfl a0 rfl rfl Try.underlying23 (.int .i64 0) 8 info3 rfl (by decide) (by omega) 0 (ok := fun _ => True) (okp := fun _ => True) rfl (fun _ hk => hk) trivial (of_decide_eq_true (by first | (with_reducible assumption) | assumption)) (Nat.le_trans (Nat.mul_le_mul_right _ (of_decide_eq_true (by first | (with_reducible assumption) | assumption) : a0.toNat ≤ 35184372088832)) (by omega)) (Below.refl _ _) (Nat.le_refl _) ?_; intro v308 w15 ho16 hb hg_ hnew_; clear hg_ hnew_; (first | rw [← Ny307.out] at ho16 | (simp only [Int.reduceToNat] at ho16; rw [← Ny307.out] at ho16)); have n0_ := Aside0.mk (Kd.S_below (by (with_reducible repeat (first | apply Kd.S_alloc | apply Kd.S_drewN | apply Kd.S_drew)); exact HO306.out) hb); have n1_ := Aside0.mk (Kd.R_lower ho16 (below_size (by repeat (first | (with_reducible first | exact HB.out | apply below_alloc | apply pw_below_drewN | apply below_drew1) | exact HB.out)))); have n2_ := Aside0.mk (below_step (by repeat (first | (with_reducible first | exact HB.out | apply below_alloc | apply pw_below_drewN | apply below_drew1) | exact HB.out)) hb); clear HO306; clear HB; have HO306 := n0_; have HO309 := n1_; have HB := n2_; clear n0_ n1_ n2_; clear hb ho16))
              repeat (go_quiet (first | ((with_reducible refine gate_dst (N := 33) rfl ?_); (try (refine gate_guard (by rfl) ?_; dsimp only)); refine Kd.S_make (Kd.slice 34 k34) _ 32 rfl (N := 33) rfl 22 _ _ rfl a0 rfl rfl Try.underlying22 (.slice none 0 0) 24 info32 rfl (by decide) (by omega) [] (ok := fun _ => True) (okp := fun _ => True) ⟨_, rfl, Kd.R_nil _ _ _ _ _⟩ (fun _ hk => hk) trivial (of_decide_eq_true (by first | (with_reducible assumption) | assumption)) (Nat.le_trans (Nat.mul_le_mul_right _ (of_decide_eq_true (by first | (with_reducible assumption) | assumption) : a0.toNat ≤ 11728124029610)) (by omega)) (Below.refl _ _) (Nat.le_refl _) ?_; intro v305 w13 ho14 hb hg_ hnew_; clear hg_ hnew_; (first | rw [← Ny304.out] at ho14 | (simp only [Int.reduceToNat] at ho14; rw [← Ny304.out] at ho14)); have n0_ := Aside0.mk (Kd.S_lower ho14 (below_size (by repeat (first | (with_reducible first | exact HB.out | apply below_alloc | apply pw_below_drewN | apply below_drew1) | exact HB.out)))); have n1_ := Aside0.mk (below_step (by repeat (first | (with_reducible first | exact HB.out | apply below_alloc | apply pw_below_drewN | apply below_drew1) | exact HB.out)) hb); clear HB; have HO306 := n0_; have HB := n1_; clear n0_ n1_; clear hb ho14) | ((with_reducible refine gate_dst (N := 35) rfl ?_); (try (refine gate_guard (by rfl) ?_; dsimp only)); refine Kd.R_make (Kd.int .i64) _ 3 rfl (N := 35) rfl 23 _ _ rfl a0 rfl rfl Try.underlying23 (.int .i64 0) 8 info3 rfl (by decide) (by omega) 0 (ok := fun _ => True) (okp := fun _ => True) rfl (fun _ hk => hk) trivial (of_decide_eq_true (by first | (with_reducible assumption) | assumption)) (Nat.le_trans (Nat.mul_le_mul_right _ (of_decide_eq_true (by first | (with_reducible assumption) | assumption) : a0.toNat ≤ 35184372088832)) (by omega)) (Below.refl _ _) (Nat.le_refl _) ?_; intro v308 w15 ho16 hb hg_ hnew_; clear hg_ hnew_; (first | rw [← Ny307.out] at ho16 | (simp only [Int.reduceToNat] at ho16; rw [← Ny307.out] at ho16)); have n0_ := Aside0.mk (Kd.S_below (by (with_reducible repeat (first | apply Kd.S_alloc | apply Kd.S_drewN | apply Kd.S_drew)); exact HO306.out) hb); have n1_ := Aside0.mk (Kd.R_lower ho16 (below_size (by repeat (first | (with_reducible first | exact HB.out | apply below_alloc | apply pw_below_drewN | apply below_drew1) | exact HB.out)))); have n2_ := Aside0.mk (below_step (by repeat (first | (with_reducible first | exact HB.out | apply below_alloc | apply pw_below_drewN | apply below_drew1) | exact HB.out)) hb); clear HO306; clear HB; have HO306 := n0_; have HO309 := n1_; have HB := n2_; clear n0_ n1_ n2_; clear hb ho16)); try go_wp2_with (first | ((with_reducible refine gate_dst (N := 33) rfl ?_); (try (refine gate_guard (by rfl) ?_; dsimp only)); refine Kd.S_make (Kd.slice 34 k34) _ 32 rfl (N := 33) rfl 22 _ _ rfl a0 rfl rfl Try.underlying22 (.slice none 0 0) 24 info32 rfl (by decide) (by omega) [] (ok := fun _ => True) (okp := fun _ => True) ⟨_, rfl, Kd.R_nil _ _ _ _ _⟩ (fun _ hk => hk) trivial (of_decide_eq_true (by first | (with_reducible assumption) | assumption)) (Nat.le_trans (Nat.mul_le_mul_right _ (of_decide_eq_true (by first | (with_reducible assumption) | assumption) : a0.toNat ≤ 11728124029610)) (by omega)) (Below.refl _ _) (Nat.le_refl _) ?_; intro v305 w13 ho14 hb hg_ hnew_; clear hg_ hnew_; (first | rw [← Ny304.out] at ho14 | (simp only [Int.reduceToNat] at ho14; rw [← Ny304.out] at ho14)); have n0_ := Aside0.mk (Kd.S_lower ho14 (below_size (by repeat (first | (with_reducible first | exact HB.out | apply below_alloc | apply pw_below_drewN | apply below_drew1) | exact HB.out)))); have n1_ := Aside0.mk (below_step (by repeat (first | (with_reducible first | exact HB.out | apply below_alloc | apply pw_below_drewN | apply below_drew1) | exact HB.out)) hb); clear HB; have HO306 := n0_; have HB := n1_; clear n0_ n1_; clear hb ho14) | ((with_reducible refine gate_dst (N := 35) rfl ?_); (try (refine gate_guard (by rfl) ?_; dsimp only)); refine Kd.R_make (Kd.int .i64) _ 3 rfl (N := 35) rfl 23 _ _ rfl a0 rfl rfl Try.underlying23 (.int .i64 0) 8 info3 rfl (by decide) (by omega) 0 (ok := fun _ => True) (okp := fun _ => True) rfl (fun _ hk => hk) trivial (of_decide_eq_true (by first | (with_reducible assumption) | assumption)) (Nat.le_trans (Nat.mul_le_mul_right _ (of_decide_eq_true (by first | (with_reducible assumption) | assumption) : a0.toNat ≤ 35184372088832)) (by omega)) (Below.refl _ _) (Nat.le_refl _) ?_; intro v308 w15 ho16 hb hg_ hnew_; clear hg_ hnew_; (first | rw [← Ny307.out] at ho16 | (simp only [Int.reduceToNat] at ho16; rw [← Ny307.out] at ho16)); have n0_ := Aside0.mk (Kd.S_below (by (with_reducible repeat (first | apply Kd.S_alloc | apply Kd.S_drewN | apply Kd.S_drew)); exact HO306.out) hb); have n1_ := Aside0.mk (Kd.R_lower ho16 (below_size (by repeat (first | (with_reducible first | exact HB.out | apply below_alloc | apply pw_below_drewN | apply below_drew1) | exact HB.out)))); have n2_ := Aside0.mk (below_step (by repeat (first | (with_reducible first | exact HB.out | apply below_alloc | apply pw_below_drewN | apply below_drew1) | exact HB.out)) hb); clear HO306; clear HB; have HO306 := n0_; have HO309 := n1_; have HB := n2_; clear n0_ n1_ n2_; clear hb ho16)))
              go_loopg [8] kj3 (fun kq v8 w' => ∃ (x6_2 : List (List (S34))) (x7_2 : List Int) (x8_2 : Int), v8 = .int .i64 x8_2 ∧ Aside0 (purflinglaw07_GridPlain.l0 kq a0 a1 t303 x6_2 x7_2 x8_2 = some r) ∧ Aside0 (kq ≤ kj3) ∧ Aside0 (Kd.S (Kd.slice 34 k34) 32 w' w.heap.size (fun _ => True) v305 x6_2) ∧ Aside0 (Kd.R (Kd.int .i64) 3 w' w.heap.size (fun _ => True) v308 x7_2) ∧ Aside0 (Below w.heap.size w w'))
              case atStart => exact ⟨(y304), (y307), (0), (by first | rfl | (simp; done) | (simp [*]; done)), H', ⟨Nat.le_refl _⟩, ⟨by (with_reducible repeat (first | apply Kd.S_alloc | apply Kd.S_drewN | apply Kd.S_drew)); exact HO306.out⟩, ⟨by (with_reducible repeat (first | apply Kd.R_alloc | apply Kd.R_drewN | apply Kd.R_drew)); exact HO309.out⟩, ⟨by repeat (first | (with_reducible first | exact HB.out | apply below_alloc | apply pw_below_drewN | apply below_drew1) | exact HB.out)⟩⟩
              case round =>
                clear H'
                try clear c1
                try clear p2
                try clear c6
                try clear c6b0
                try clear c7
                try clear c7b0
                try clear c8
                try clear c8b0
                try clear c9
                try clear c10
                try clear c10b0
                try clear c10b1
                try clear c11
                try clear c11b0
                try clear c11b1
                try clear c12
                try clear c12b0
                try clear c12b1
                try clear p2
                obtain ⟨x6_2, x7_2, x8_2, rfl, HA, HK2, HO_6, HO_7, HB⟩ := hrel
                cases gk with
                | zero => exact absurd HA.out (by simp [purflinglaw07_GridPlain.l0])
                | succ k2 =>
                  have H := HA.out
                  clear HA
                  simp only [purflinglaw07_GridPlain.l0] at H
                  by_cases c17 : x8_2 < a0
                  · rw [if_pos c17] at H
                    have c17b0 : decide (x8_2 < a0) = true := decide_eq_true c17
                    clear c17
                    by_cases c18 : 0 ≤ x8_2
                    · rw [if_pos c18] at H
                      have c18b0 : decide (0 ≤ x8_2) = true := decide_eq_true c18
                      clear c18
                      by_cases c19 : x8_2 < (x7_2.length : Int)
                      · rw [if_pos c19] at H
                        have c19b0 : decide (x8_2 < (x7_2.length : Int)) = true := decide_eq_true c19
                        clear c19
                        obtain ⟨y310, hy310⟩ : ∃ y_ : List Int, y_ = (x7_2.set (x8_2 : Int).toNat a0) := ⟨_, rfl⟩
                        replace H : (purflinglaw07_GridPlain.l1 k2 a0 a1 t303 x6_2 y310 x8_2 0) = some r := by first | (rw [hy310]; with_reducible exact H) | (have H2_ := (Option.bind_some _ _).symm.trans H; rw [hy310]; with_reducible exact H2_) | (have H2_ := (Option.bind_some _ _).symm.trans H; with_reducible exact H2_) | with_reducible exact H | (rw [hy310]; exact H) | exact H
                        have Ny310 := Aside0.mk hy310
                        clear hy310
                        have H' := Aside0.mk H
                        clear H
                        have p20 : 0 ≤ (x8_2 : Int) := of_decide_eq_true (by first | (with_reducible assumption) | assumption)
                        have q20 : (x8_2 : Int) < ((x7_2.length : Int) : Int) := of_decide_eq_true (by first | (with_reducible assumption) | assumption)
                        obtain ⟨go20, co20, eo20, gb20, gl20, cl20, HG20⟩ := Kd.R_form HO_7.out (by omega)
                        (first | cases eo20 | (injection eo20 with ea_ en_ ec_; (first | subst ea_ | (injection ea_ with ea_; subst ea_)); subst ec_; clear en_))
                        have GB20 := Aside0.mk gb20
                        have GG20 := Aside0.mk HG20
                        clear gb20 gl20 HG20
                        obtain ⟨hx20_0, hf20_0⟩ := Kd.R_celln 0 HO_7.out (x8_2 : Int) p20 q20
                        replace p20 := eq_true p20
                        replace q20 := eq_true q20
                        have HP21 := Kd.R_putg HO_7.out (x8_2 : Int) a0
                        go_wp2_with (first | ((with_reducible refine gate_store (t := 3) (p := 44) rfl ?_); (try (rw [drewN_self wr]; generalize hq_ : World.drewN wr _ = wr; have n0_ := Aside0.mk (Kd.S_at hq_ HO_6.out); have n1_ := Aside0.mk (Kd.R_at hq_ HO_7.out); have n2_ := Aside0.mk (below_at hq_ HB.out); clear hq_ HO_6 HO_7 HB; have HO_6 := n0_; have HO_7 := n1_; have HB := n2_; clear n0_ n1_ n2_; (try (have HP21 := Kd.R_putg HO_7.out (x8_2 : Int) a0)))); refine store_event (t := 3) (p := 44) (v := ?vo_w22) (w1 := (wr.setCell ⟨go20, (x8_2 : Int).toNat, none⟩ (.int .i64 a0))) ?hg ?ho ?hn ?hr ?_; (case ho => rfl); (case hg => rfl); (case hn => rfl); (case hr => first | (go_simp; done) | (go_simp; rfl)); intro w22 hw; have hg : wr.grownBy w22 (some go20) := (by rw [hw]; exact HP21.2); have hp_ : Kd.R (Kd.int .i64) 3 w22 w.heap.size (fun _ => True) (.slice (some ⟨go20, 0, none⟩) x7_2.length co20) y310 := (by rw [hw, Ny310.out]; exact HP21.1); clear HP21; have n0_ := Aside0.mk (Kd.S_over' (v := (.slice (some ⟨go20, 0, none⟩) x7_2.length co20)) (by (with_reducible repeat (first | apply Kd.S_alloc | apply Kd.S_drewN | apply Kd.S_drew)); exact HO_6.out) (Kd.R_typed HO_7.out) (by decide) hg); have n1_ := Aside0.mk (hp_); have n2_ := Aside0.mk ((by rw [hw]; exact below_set (HB.out) GB20.out : Below w.heap.size w w22)); clear HO_6; clear HO_7; clear HB; have HO_6 := n0_; have HO_7 := n1_; have HB := n2_; clear n0_ n1_ n2_; clear hg hw hp_))
                        repeat (go_quiet (first | ((with_reducible refine gate_store (t := 3) (p := 44) rfl ?_); (try (rw [drewN_self wr]; generalize hq_ : World.drewN wr _ = wr; have n0_ := Aside0.mk (Kd.S_at hq_ HO_6.out); have n1_ := Aside0.mk (Kd.R_at hq_ HO_7.out); have n2_ := Aside0.mk (below_at hq_ HB.out); clear hq_ HO_6 HO_7 HB; have HO_6 := n0_; have HO_7 := n1_; have HB := n2_; clear n0_ n1_ n2_; (try (have HP21 := Kd.R_putg HO_7.out (x8_2 : Int) a0)))); refine store_event (t := 3) (p := 44) (v := ?vo_w22) (w1 := (wr.setCell ⟨go20, (x8_2 : Int).toNat, none⟩ (.int .i64 a0))) ?hg ?ho ?hn ?hr ?_; (case ho => rfl); (case hg => rfl); (case hn => rfl); (case hr => first | (go_simp; done) | (go_simp; rfl)); intro w22 hw; have hg : wr.grownBy w22 (some go20) := (by rw [hw]; exact HP21.2); have hp_ : Kd.R (Kd.int .i64) 3 w22 w.heap.size (fun _ => True) (.slice (some ⟨go20, 0, none⟩) x7_2.length co20) y310 := (by rw [hw, Ny310.out]; exact HP21.1); clear HP21; have n0_ := Aside0.mk (Kd.S_over' (v := (.slice (some ⟨go20, 0, none⟩) x7_2.length co20)) (by (with_reducible repeat (first | apply Kd.S_alloc | apply Kd.S_drewN | apply Kd.S_drew)); exact HO_6.out) (Kd.R_typed HO_7.out) (by decide) hg); have n1_ := Aside0.mk (hp_); have n2_ := Aside0.mk ((by rw [hw]; exact below_set (HB.out) GB20.out : Below w.heap.size w w22)); clear HO_6; clear HO_7; clear HB; have HO_6 := n0_; have HO_7 := n1_; have HB := n2_; clear n0_ n1_ n2_; clear hg hw hp_)); try go_wp2_with (first | ((with_reducible refine gate_store (t := 3) (p := 44) rfl ?_); (try (rw [drewN_self wr]; generalize hq_ : World.drewN wr _ = wr; have n0_ := Aside0.mk (Kd.S_at hq_ HO_6.out); have n1_ := Aside0.mk (Kd.R_at hq_ HO_7.out); have n2_ := Aside0.mk (below_at hq_ HB.out); clear hq_ HO_6 HO_7 HB; have HO_6 := n0_; have HO_7 := n1_; have HB := n2_; clear n0_ n1_ n2_; (try (have HP21 := Kd.R_putg HO_7.out (x8_2 : Int) a0)))); refine store_event (t := 3) (p := 44) (v := ?vo_w22) (w1 := (wr.setCell ⟨go20, (x8_2 : Int).toNat, none⟩ (.int .i64 a0))) ?hg ?ho ?hn ?hr ?_; (case ho => rfl); (case hg => rfl); (case hn => rfl); (case hr => first | (go_simp; done) | (go_simp; rfl)); intro w22 hw; have hg : wr.grownBy w22 (some go20) := (by rw [hw]; exact HP21.2); have hp_ : Kd.R (Kd.int .i64) 3 w22 w.heap.size (fun _ => True) (.slice (some ⟨go20, 0, none⟩) x7_2.length co20) y310 := (by rw [hw, Ny310.out]; exact HP21.1); clear HP21; have n0_ := Aside0.mk (Kd.S_over' (v := (.slice (some ⟨go20, 0, none⟩) x7_2.length co20)) (by (with_reducible repeat (first | apply Kd.S_alloc | apply Kd.S_drewN | apply Kd.S_drew)); exact HO_6.out) (Kd.R_typed HO_7.out) (by decide) hg); have n1_ := Aside0.mk (hp_); have n2_ := Aside0.mk ((by rw [hw]; exact below_set (HB.out) GB20.out : Below w.heap.size w w22)); clear HO_6; clear HO_7; clear HB; have HO_6 := n0_; have HO_7 := n1_; have HB := n2_; clear n0_ n1_ n2_; clear hg hw hp_)))
                        go_loopg [9] k2 (fun kq v9 w' => ∃ (x6_3 : List (List (S34))) (x9_3 : Int), v9 = .int .i64 x9_3 ∧ Aside0 (purflinglaw07_GridPlain.l1 kq a0 a1 t303 x6_3 y310 x8_2 x9_3 = some r) ∧ Aside0 (kq ≤ k2) ∧ Aside0 (Kd.S (Kd.slice 34 k34) 32 w' w.heap.size (fun _ => True) v305 x6_3) ∧ Aside0 (Kd.R (Kd.int .i64) 3 w' w.heap.size (fun _ => True) (.slice (some ⟨go20, 0, none⟩) x7_2.length co20) y310) ∧ Aside0 (Below w.heap.size w w'))
                        case atStart => exact ⟨(x6_2), (0), (by first | rfl | (simp; done) | (simp [*]; done)), H', ⟨Nat.le_refl _⟩, ⟨by (with_reducible repeat (first | apply Kd.S_alloc | apply Kd.S_drewN | apply Kd.S_drew)); exact HO_6.out⟩, ⟨by (with_reducible repeat (first | apply Kd.R_alloc | apply Kd.R_drewN | apply Kd.R_drew)); exact HO_7.out⟩, ⟨by repeat (first | (with_reducible first | exact HB.out | apply below_alloc | apply pw_below_drewN | apply below_drew1) | exact HB.out)⟩⟩
                        case round =>
                          clear H'
                          try clear c1
                          try clear p2
                          try clear q2
                          try clear hx2
                          try clear hf2
                          try clear c6
                          try clear c6b0
                          try clear c7
                          try clear c7b0
                          try clear c8
                          try clear c8b0
                          try clear c9
                          try clear c10
                          try clear c10b0
                          try clear c10b1
                          try clear c11
                          try clear c11b0
                          try clear c11b1
                          try clear c12
                          try clear c12b0
                          try clear c12b1
                          try clear c17
                          try clear c17b0
                          try clear c18
                          try clear c18b0
                          try clear c19
                          try clear c19b0
                          try clear p20
                          try clear q20
                          try clear hx20
                          try clear hf20
                          try clear hx20_0
                          try clear p2
                          try clear p20
                          try clear q20
                          obtain ⟨x6_3, x9_3, rfl, HA, HK3, HO_6, HO_7, HB⟩ := hrel
                          have hl7_3 := (Kd.R_reads' HO_7.out).1
                          rw [hl7_3] at HO_7
                          (try simp only [hl7_3])
                          (try simp only [hl7_3] at HO_6)
                          cases gk with
                          | zero => exact absurd HA.out (by simp [purflinglaw07_GridPlain.l1])
                          | succ k3 =>
                            have H := HA.out
                            clear HA
                            simp only [purflinglaw07_GridPlain.l1] at H
                            by_cases c23 : x9_3 < a1
                            · rw [if_pos c23] at H
                              have c23b0 : decide (x9_3 < a1) = true := decide_eq_true c23
                              clear c23
                              by_cases c24 : 0 ≤ x8_2
                              · rw [if_pos c24] at H
                                have c24b0 : decide (0 ≤ x8_2) = true := decide_eq_true c24
                                clear c24
                                by_cases c25 : x8_2 < (x6_3.length : Int)
                                · rw [if_pos c25] at H
                                  have c25b0 : decide (x8_2 < (x6_3.length : Int)) = true := decide_eq_true c25
                                  clear c25
                                  by_cases c26 : (rd_L2 x6_3 x8_2).length < 5864062014805
                                  · rw [if_pos c26] at H
                                    have LMc26 := Aside0.mk c26
                                    clear c26
                                    obtain ⟨y312, hy312⟩ : ∃ y_ : List (S34), y_ = ((rd_L2 x6_3 x8_2) ++ [(⟨wrap64 ((wrap64 (100 * x8_2)) + x9_3), 1, 1⟩ : S34)]) := ⟨_, rfl⟩
                                    replace H : (purflinglaw07_GridPlain.l1 k3 a0 a1 t303 (x6_3.set (x8_2 : Int).toNat y312) y310 x8_2 (wrap64 (x9_3 + 1))) = some r := by first | (rw [hy312]; with_reducible exact H) | (have H2_ := (Option.bind_some _ _).symm.trans H; rw [hy312]; with_reducible exact H2_) | (have H2_ := (Option.bind_some _ _).symm.trans H; with_reducible exact H2_) | with_reducible exact H | (rw [hy312]; exact H) | exact H
                                    have Ny312 := Aside0.mk hy312
                                    clear hy312
                                    obtain ⟨y315, hy315⟩ : ∃ y_ : List (List (S34)), y_ = (x6_3.set (x8_2 : Int).toNat y312) := ⟨_, rfl⟩
                                    replace H : (purflinglaw07_GridPlain.l1 k3 a0 a1 t303 y315 y310 x8_2 (wrap64 (x9_3 + 1))) = some r := by first | (rw [hy315]; with_reducible exact H) | (have H2_ := (Option.bind_some _ _).symm.trans H; rw [hy315]; with_reducible exact H2_) | (have H2_ := (Option.bind_some _ _).symm.trans H; with_reducible exact H2_) | with_reducible exact H | (rw [hy315]; exact H) | exact H
                                    have Ny315 := Aside0.mk hy315
                                    clear hy315
                                    have H' := Aside0.mk H
                                    clear H
                                    obtain ⟨Ao28, co28, eo28⟩ := Kd.S_slice HO_6.out
                                    subst eo28
                                    have p311 : 0 ≤ (x8_2 : Int) := of_decide_eq_true (by first | (with_reducible assumption) | assumption)
                                    have q311 : x8_2 < (x6_3.length : Int) := of_decide_eq_true (by first | (with_reducible assumption) | assumption)
                                    obtain ⟨ad311, A311_0, c311_0, e311, hx311_0, hl311_0, hi311_0⟩ := at_L2 (Kd.S_reads' HO_6.out).2.2 x8_2 p311 q311
                                    cases e311
                                    obtain ⟨ce311, hce311, hMe311, hcc311⟩ := Kd.S_get HO_6.out [] x8_2 p311 (by first | exact q311 | exact of_decide_eq_true (by first | (with_reducible assumption) | assumption) | (have e_ := (Kd.S_reads' HO_6.out).1; omega))
                                    obtain ⟨ve311_0, rfl, ge311_0⟩ := hMe311
                                    have hv311_0 := hcc311 0 _ rfl
                                    rw [Nat.add_zero, show ((Kd.slice 34 k34)).sz = 1 from rfl, Nat.mul_one] at hv311_0
                                    replace hv311_0 := Option.some.inj (hv311_0.symm.trans hx311_0)
                                    rw [hv311_0] at ge311_0
                                    have HL311_0 := Aside0.mk (show Kd.R k34 34 _ _ _ _ (rd_L2 x6_3 x8_2) from ge311_0)
                                    clear hv311_0 ge311_0
                                    have HX311_0 := Aside0.mk hx311_0
                                    clear hcc311 hce311
                                    have HR311_0 := Aside0.mk hi311_0
                                    have HC311_0 := Aside0.mk hl311_0
                                    clear hi311_0 hl311_0
                                    replace p311 := eq_true p311
                                    replace q311 := eq_true q311
                                    obtain ⟨go29, co29, eo29, gb29, gl29, cl29, HG29⟩ := Kd.S_form HO_6.out (by have h_ : (x8_2 : Int) < ((x6_3.length : Int) : Int) := of_decide_eq_true (by first | (with_reducible assumption) | assumption); have h2_ : 0 ≤ (x8_2 : Int) := (of_decide_eq_true (by first | (with_reducible assumption) | assumption)); omega)
                                    (first | cases eo29 | (injection eo29 with ea_ en_ ec_; (first | subst ea_ | (injection ea_ with ea_; subst ea_)); subst ec_; clear en_))
                                    have GB29 := Aside0.mk gb29
                                    have GG29 := Aside0.mk HG29
                                    clear gb29 gl29 HG29
                                    (first | simp only [add_plain] at hx311_0 | skip)
                                    obtain ⟨oki29, ce29, hcl29, hM29, hcc29, _, _, hH29⟩ := Kd.S_elem HO_6.out [] (x8_2 : Int) (of_decide_eq_true (by first | (with_reducible assumption) | assumption)) (by have h_ : (x8_2 : Int) < ((x6_3.length : Int) : Int) := of_decide_eq_true (by first | (with_reducible assumption) | assumption); first | exact h_ | (have e_ := (Kd.S_reads' HO_6.out).1; omega) | simpa using h_)
                                    obtain ⟨ve29_0, rfl, ge29_0⟩ := hM29
                                    have hv29 := hcc29 0 _ rfl
                                    have hX29 := HX311_0.out
                                    (try simp only [add_plain] at hX29)
                                    (try simp only [Nat.add_zero] at hv29)
                                    (try rw [show ((Kd.slice 34 k34)).sz = 1 from rfl, Nat.mul_one] at hv29)
                                    replace hv29 := Option.some.inj (hv29.symm.trans hX29)
                                    subst hv29
                                    clear hX29 hcc29 hcl29
                                    have UU29 := Aside0.mk (show Kd.R k34 34 _ w.heap.size oki29 (.slice A311_0 (rd_L2 x6_3 x8_2).length c311_0) (rd_L2 x6_3 x8_2) from ge29_0)
                                    have HH29 := Aside0.mk hH29
                                    have HN29 := Aside0.mk (Kd.S_reads' HO_6.out).1
                                    clear hH29 ge29_0
                                    go_wp2_with (first | ((with_reducible refine gate_builtin (b := .append) (xs := #[.tmp 55, .tmp 61]) rfl ?_); (try (refine gate_guard (by rfl) ?_; dsimp only)); at_builtin; refine Kd.R_append k34 (w0 := w) w.heap.size rfl (.tmp 55) (.tmp 61) 32 34 (.agg #[(.int .i64 0), (.int .i64 0), (.int .i64 0)]) 24 rfl Try.underlying32 info34 rfl (by decide) (by omega) (.slice A311_0 (rd_L2 x6_3 x8_2).length c311_0) (rd_L2 x6_3 x8_2) (⟨wrap64 ((wrap64 (100 * x8_2)) + x9_3), 1, 1⟩ : S34) [.int .i64 (wrap64 ((wrap64 (100 * x8_2)) + x9_3)), .int .i64 1, .int .i64 1] (fun k_ => oki29 k_ ∨ ((fun _ => True)) k_ ∧ wr.heap.size ≤ k_) (fun _ => False) rfl rfl ?aP (fun _ hk => hk.elim) ?aF ?aO ?aB ?aS ?aL ?_; (case aP => exact k34_mkM _ _ _ (⟨wrap64 ((wrap64 (100 * x8_2)) + x9_3), 1, 1⟩ : S34)); (case aB => exact (by repeat (first | (with_reducible first | exact HB.out | apply below_alloc | apply pw_below_drewN | apply below_drew1) | exact HB.out))); (case aF => exact (fun k_ hk => .inr ⟨trivial, hk⟩)); (case aO => exact (by (with_reducible repeat (first | apply Kd.R_alloc | apply Kd.R_drewN | apply Kd.R_drew)); exact Kd.R_mono UU29.out (fun _ hk => .inl hk))); (case aS => exact (below_size (by repeat (first | (with_reducible first | exact HB.out | apply below_alloc | apply pw_below_drewN | apply below_drew1) | exact HB.out)))); (case aL => have := LMc26.out; omega); intro v313 w30 ho hb hg hat; rw [← Ny312.out] at ho; have n0_ := Aside0.mk (Kd.R_over' (v := (.slice A311_0 (rd_L2 x6_3 x8_2).length c311_0)) (by (with_reducible repeat (first | apply Kd.R_alloc | apply Kd.R_drewN | apply Kd.R_drew)); exact HO_7.out) (Kd.R_typed HL311_0.out) (by decide) hg); have n1_ := Aside0.mk (hb); have n2_ := Aside0.mk (Kd.H_grown (Kd.H_widen (by repeat (first | exact HH29.out | refine Kd.H_alloc ?_ _ | refine Kd.H_drewN ?_ _ | refine Kd.H_drew ?_))) hg (fun k_ e_ => .inl (UU29.out.1 k_ e_))); have n3_ := Aside0.mk (ho); clear HO_7; clear HB; clear HH29; clear HO_6; clear UU29; clear HL311_0; have HO_7 := n0_; have HB := n1_; have HH29 := n2_; have HO314 := n3_; clear n0_ n1_ n2_ n3_; clear ho hb hg hat; have p27 : 0 ≤ (x8_2 : Int) := of_decide_eq_true (by first | (with_reducible assumption) | assumption); have q27 : (x8_2 : Int) < ((x6_3.length : Int) : Int) := of_decide_eq_true (by first | (with_reducible assumption) | assumption); replace p27 := eq_true p27; replace q27 := eq_true q27; obtain ⟨Ao33, co33, eo33⟩ := Kd.R_slice HO314.out; subst eo33; obtain ⟨_, _, hraw31, _, _, hcc31, _⟩ := Kd.H_raw HH29.out (of_decide_eq_true (by first | (with_reducible assumption) | assumption)) (by have h_ : (x8_2 : Int) < ((x6_3.length : Int) : Int) := of_decide_eq_true (by first | (with_reducible assumption) | assumption); first | exact h_ | (have e_ := (HN29.out); omega) | simpa using h_); obtain ⟨_, hfr31⟩ := Kd.H_at HH29.out (of_decide_eq_true (by first | (with_reducible assumption) | assumption)) (by have h_ : (x8_2 : Int) < ((x6_3.length : Int) : Int) := of_decide_eq_true (by first | (with_reducible assumption) | assumption); first | exact h_ | (have e_ := (HN29.out); omega) | simpa using h_); have hx31_0 := hcc31 0 _ rfl; have hf31_0 := hfr31 0; (try simp only [Nat.add_zero] at hx31_0 hf31_0); (try rw [show ((Kd.slice 34 k34)).sz = 1 from rfl, Nat.mul_one] at hx31_0); (try rw [show ((Kd.slice 34 k34)).sz = 1 from rfl, Nat.mul_one] at hf31_0); have HP31 := Kd.S_seg0 HH29.out (of_decide_eq_true (by first | (with_reducible assumption) | assumption)) (by have h_ : (x8_2 : Int) < ((x6_3.length : Int) : Int) := of_decide_eq_true (by first | (with_reducible assumption) | assumption); first | exact h_ | (have e_ := (HN29.out); omega) | simpa using h_) (seg := [.slice Ao33 y312.length co33]) (j := 0) (show 1 ≤ 1 from by decide) (x' := y312) (Kd.M_row HO314.out) (fun _ hk => hk); (try simp only [show ((Kd.slice 34 k34)).sz = 1 from rfl, Nat.mul_one, Nat.add_zero] at HP31); clear hcc31 hfr31) | ((with_reducible refine gate_store (t := 32) (p := 63) rfl ?_); (try (rw [drewN_self w30]; generalize hq_ : World.drewN w30 _ = w30; have n0_ := Aside0.mk (Kd.R_at hq_ HO_7.out); have n1_ := Aside0.mk (Kd.S_at hq_ HO_6.out); have n2_ := Aside0.mk (below_at hq_ HB.out); clear hq_ HO_7 HO_6 HB; have HO_7 := n0_; have HO_6 := n1_; have HB := n2_; clear n0_ n1_ n2_; (try (obtain ⟨Ao33, co33, eo33⟩ := Kd.R_slice HO314.out)); (try (subst eo33)); (try (obtain ⟨_, _, hraw31, _, _, hcc31, _⟩ := Kd.H_raw HH29.out (of_decide_eq_true (by first | (with_reducible assumption) | assumption)) (by have h_ : (x8_2 : Int) < ((x6_3.length : Int) : Int) := of_decide_eq_true (by first | (with_reducible assumption) | assumption); first | exact h_ | (have e_ := (HN29.out); omega) | simpa using h_))); (try (obtain ⟨_, hfr31⟩ := Kd.H_at HH29.out (of_decide_eq_true (by first | (with_reducible assumption) | assumption)) (by have h_ : (x8_2 : Int) < ((x6_3.length : Int) : Int) := of_decide_eq_true (by first | (with_reducible assumption) | assumption); first | exact h_ | (have e_ := (HN29.out); omega) | simpa using h_))); (try (have hx31_0 := hcc31 0 _ rfl)); (try (have hf31_0 := hfr31 0)); (try (try simp only [Nat.add_zero] at hx31_0 hf31_0)); (try (try rw [show ((Kd.slice 34 k34)).sz = 1 from rfl, Nat.mul_one] at hx31_0)); (try (try rw [show ((Kd.slice 34 k34)).sz = 1 from rfl, Nat.mul_one] at hf31_0)); (try (have HP31 := Kd.S_seg0 HH29.out (of_decide_eq_true (by first | (with_reducible assumption) | assumption)) (by have h_ : (x8_2 : Int) < ((x6_3.length : Int) : Int) := of_decide_eq_true (by first | (with_reducible assumption) | assumption); first | exact h_ | (have e_ := (HN29.out); omega) | simpa using h_) (seg := [.slice Ao33 y312.length co33]) (j := 0) (show 1 ≤ 1 from by decide) (x' := y312) (Kd.M_row HO314.out) (fun _ hk => hk))); (try (try simp only [show ((Kd.slice 34 k34)).sz = 1 from rfl, Nat.mul_one, Nat.add_zero] at HP31)); (try (clear hcc31 hfr31)))); refine store_event (t := 32) (p := 63) (v := ?vo_w32) (w1 := (w30.setCell ⟨go29, (x8_2 : Int).toNat, none⟩ (.slice Ao33 y312.length co33))) ?hg ?ho ?hn ?hr ?_; (case ho => rfl); (case hg => rfl); (case hn => rfl); (case hr => first | (go_simp; done) | (go_simp; rfl)); intro w32 hw; have hg : w30.grownBy w32 (some go29) := (by rw [hw]; exact HP31.2); have hp_ : Kd.S (Kd.slice 34 k34) 32 w32 w.heap.size (fun _ => True) (.slice (some ⟨go29, 0, none⟩) x6_3.length co28) y315 := (by rw [hw, Ny315.out]; exact HP31.1); clear HP31; have n0_ := Aside0.mk (Kd.R_over' (v := (.slice (some ⟨go29, 0, none⟩) x6_3.length co28)) (by (with_reducible repeat (first | apply Kd.R_alloc | apply Kd.R_drewN | apply Kd.R_drew)); exact HO_7.out) (Kd.R_typed hraw31) (by decide) hg); have n1_ := Aside0.mk ((by rw [hw]; exact below_set HB.out GB29.out : Below w.heap.size w w32)); have n2_ := Aside0.mk (hp_); clear HO_7; clear HB; clear HO314; clear HH29; have HO_7 := n0_; have HB := n1_; have HO_6 := n2_; clear n0_ n1_ n2_; clear hg hw hp_ hraw31))
                                    repeat (go_quiet (first | ((with_reducible refine gate_builtin (b := .append) (xs := #[.tmp 55, .tmp 61]) rfl ?_); (try (refine gate_guard (by rfl) ?_; dsimp only)); at_builtin; refine Kd.R_append k34 (w0 := w) w.heap.size rfl (.tmp 55) (.tmp 61) 32 34 (.agg #[(.int .i64 0), (.int .i64 0), (.int .i64 0)]) 24 rfl Try.underlying32 info34 rfl (by decide) (by omega) (.slice A311_0 (rd_L2 x6_3 x8_2).length c311_0) (rd_L2 x6_3 x8_2) (⟨wrap64 ((wrap64 (100 * x8_2)) + x9_3), 1, 1⟩ : S34) [.int .i64 (wrap64 ((wrap64 (100 * x8_2)) + x9_3)), .int .i64 1, .int .i64 1] (fun k_ => oki29 k_ ∨ ((fun _ => True)) k_ ∧ wr.heap.size ≤ k_) (fun _ => False) rfl rfl ?aP (fun _ hk => hk.elim) ?aF ?aO ?aB ?aS ?aL ?_; (case aP => exact k34_mkM _ _ _ (⟨wrap64 ((wrap64 (100 * x8_2)) + x9_3), 1, 1⟩ : S34)); (case aB => exact (by repeat (first | (with_reducible first | exact HB.out | apply below_alloc | apply pw_below_drewN | apply below_drew1) | exact HB.out))); (case aF => exact (fun k_ hk => .inr ⟨trivial, hk⟩)); (case aO => exact (by (with_reducible repeat (first | apply Kd.R_alloc | apply Kd.R_drewN | apply Kd.R_drew)); exact Kd.R_mono UU29.out (fun _ hk => .inl hk))); (case aS => exact (below_size (by repeat (first | (with_reducible first | exact HB.out | apply below_alloc | apply pw_below_drewN | apply below_drew1) | exact HB.out)))); (case aL => have := LMc26.out; omega); intro v313 w30 ho hb hg hat; rw [← Ny312.out] at ho; have n0_ := Aside0.mk (Kd.R_over' (v := (.slice A311_0 (rd_L2 x6_3 x8_2).length c311_0)) (by (with_reducible repeat (first | apply Kd.R_alloc | apply Kd.R_drewN | apply Kd.R_drew)); exact HO_7.out) (Kd.R_typed HL311_0.out) (by decide) hg); have n1_ := Aside0.mk (hb); have n2_ := Aside0.mk (Kd.H_grown (Kd.H_widen (by repeat (first | exact HH29.out | refine Kd.H_alloc ?_ _ | refine Kd.H_drewN ?_ _ | refine Kd.H_drew ?_))) hg (fun k_ e_ => .inl (UU29.out.1 k_ e_))); have n3_ := Aside0.mk (ho); clear HO_7; clear HB; clear HH29; clear HO_6; clear UU29; clear HL311_0; have HO_7 := n0_; have HB := n1_; have HH29 := n2_; have HO314 := n3_; clear n0_ n1_ n2_ n3_; clear ho hb hg hat; have p27 : 0 ≤ (x8_2 : Int) := of_decide_eq_true (by first | (with_reducible assumption) | assumption); have q27 : (x8_2 : Int) < ((x6_3.length : Int) : Int) := of_decide_eq_true (by first | (with_reducible assumption) | assumption); replace p27 := eq_true p27; replace q27 := eq_true q27; obtain ⟨Ao33, co33, eo33⟩ := Kd.R_slice HO314.out; subst eo33; obtain ⟨_, _, hraw31, _, _, hcc31, _⟩ := Kd.H_raw HH29.out (of_decide_eq_true (by first | (with_reducible assumption) | assumption)) (by have h_ : (x8_2 : Int) < ((x6_3.length : Int) : Int) := of_decide_eq_true (by first | (with_reducible assumption) | assumption); first | exact h_ | (have e_ := (HN29.out); omega) | simpa using h_); obtain ⟨_, hfr31⟩ := Kd.H_at HH29.out (of_decide_eq_true (by first | (with_reducible assumption) | assumption)) (by have h_ : (x8_2 : Int) < ((x6_3.length : Int) : Int) := of_decide_eq_true (by first | (with_reducible assumption) | assumption); first | exact h_ | (have e_ := (HN29.out); omega) | simpa using h_); have hx31_0 := hcc31 0 _ rfl; have hf31_0 := hfr31 0; (try simp only [Nat.add_zero] at hx31_0 hf31_0); (try rw [show ((Kd.slice 34 k34)).sz = 1 from rfl, Nat.mul_one] at hx31_0); (try rw [show ((Kd.slice 34 k34)).sz = 1 from rfl, Nat.mul_one] at hf31_0); have HP31 := Kd.S_seg0 HH29.out (of_decide_eq_true (by first | (with_reducible assumption) | assumption)) (by have h_ : (x8_2 : Int) < ((x6_3.length : Int) : Int) := of_decide_eq_true (by first | (with_reducible assumption) | assumption); first | exact h_ | (have e_ := (HN29.out); omega) | simpa using h_) (seg := [.slice Ao33 y312.length co33]) (j := 0) (show 1 ≤ 1 from by decide) (x' := y312) (Kd.M_row HO314.out) (fun _ hk => hk); (try simp only [show ((Kd.slice 34 k34)).sz = 1 from rfl, Nat.mul_one, Nat.add_zero] at HP31); clear hcc31 hfr31) | ((with_reducible refine gate_store (t := 32) (p := 63) rfl ?_); (try (rw [drewN_self w30]; generalize hq_ : World.drewN w30 _ = w30; have n0_ := Aside0.mk (Kd.R_at hq_ HO_7.out); have n1_ := Aside0.mk (Kd.S_at hq_ HO_6.out); have n2_ := Aside0.mk (below_at hq_ HB.out); clear hq_ HO_7 HO_6 HB; have HO_7 := n0_; have HO_6 := n1_; have HB := n2_; clear n0_ n1_ n2_; (try (obtain ⟨Ao33, co33, eo33⟩ := Kd.R_slice HO314.out)); (try (subst eo33)); (try (obtain ⟨_, _, hraw31, _, _, hcc31, _⟩ := Kd.H_raw HH29.out (of_decide_eq_true (by first | (with_reducible assumption) | assumption)) (by have h_ : (x8_2 : Int) < ((x6_3.length : Int) : Int) := of_decide_eq_true (by first | (with_reducible assumption) | assumption); first | exact h_ | (have e_ := (HN29.out); omega) | simpa using h_))); (try (obtain ⟨_, hfr31⟩ := Kd.H_at HH29.out (of_decide_eq_true (by first | (with_reducible assumption) | assumption)) (by have h_ : (x8_2 : Int) < ((x6_3.length : Int) : Int) := of_decide_eq_true (by first | (with_reducible assumption) | assumption); first | exact h_ | (have e_ := (HN29.out); omega) | simpa using h_))); (try (have hx31_0 := hcc31 0 _ rfl)); (try (have hf31_0 := hfr31 0)); (try (try simp only [Nat.add_zero] at hx31_0 hf31_0)); (try (try rw [show ((Kd.slice 34 k34)).sz = 1 from rfl, Nat.mul_one] at hx31_0)); (try (try rw [show ((Kd.slice 34 k34)).sz = 1 from rfl, Nat.mul_one] at hf31_0)); (try (have HP31 := Kd.S_seg0 HH29.out (of_decide_eq_true (by first | (with_reducible assumption) | assumption)) (by have h_ : (x8_2 : Int) < ((x6_3.length : Int) : Int) := of_decide_eq_true (by first | (with_reducible assumption) | assumption); first | exact h_ | (have e_ := (HN29.out); omega) | simpa using h_) (seg := [.slice Ao33 y312.length co33]) (j := 0) (show 1 ≤ 1 from by decide) (x' := y312) (Kd.M_row HO314.out) (fun _ hk => hk))); (try (try simp only [show ((Kd.slice 34 k34)).sz = 1 from rfl, Nat.mul_one, Nat.add_zero] at HP31)); (try (clear hcc31 hfr31)))); refine store_event (t := 32) (p := 63) (v := ?vo_w32) (w1 := (w30.setCell ⟨go29, (x8_2 : Int).toNat, none⟩ (.slice Ao33 y312.length co33))) ?hg ?ho ?hn ?hr ?_; (case ho => rfl); (case hg => rfl); (case hn => rfl); (case hr => first | (go_simp; done) | (go_simp; rfl)); intro w32 hw; have hg : w30.grownBy w32 (some go29) := (by rw [hw]; exact HP31.2); have hp_ : Kd.S (Kd.slice 34 k34) 32 w32 w.heap.size (fun _ => True) (.slice (some ⟨go29, 0, none⟩) x6_3.length co28) y315 := (by rw [hw, Ny315.out]; exact HP31.1); clear HP31; have n0_ := Aside0.mk (Kd.R_over' (v := (.slice (some ⟨go29, 0, none⟩) x6_3.length co28)) (by (with_reducible repeat (first | apply Kd.R_alloc | apply Kd.R_drewN | apply Kd.R_drew)); exact HO_7.out) (Kd.R_typed hraw31) (by decide) hg); have n1_ := Aside0.mk ((by rw [hw]; exact below_set HB.out GB29.out : Below w.heap.size w w32)); have n2_ := Aside0.mk (hp_); clear HO_7; clear HB; clear HO314; clear HH29; have HO_7 := n0_; have HB := n1_; have HO_6 := n2_; clear n0_ n1_ n2_; clear hg hw hp_ hraw31)); try go_wp2_with (first | ((with_reducible refine gate_builtin (b := .append) (xs := #[.tmp 55, .tmp 61]) rfl ?_); (try (refine gate_guard (by rfl) ?_; dsimp only)); at_builtin; refine Kd.R_append k34 (w0 := w) w.heap.size rfl (.tmp 55) (.tmp 61) 32 34 (.agg #[(.int .i64 0), (.int .i64 0), (.int .i64 0)]) 24 rfl Try.underlying32 info34 rfl (by decide) (by omega) (.slice A311_0 (rd_L2 x6_3 x8_2).length c311_0) (rd_L2 x6_3 x8_2) (⟨wrap64 ((wrap64 (100 * x8_2)) + x9_3), 1, 1⟩ : S34) [.int .i64 (wrap64 ((wrap64 (100 * x8_2)) + x9_3)), .int .i64 1, .int .i64 1] (fun k_ => oki29 k_ ∨ ((fun _ => True)) k_ ∧ wr.heap.size ≤ k_) (fun _ => False) rfl rfl ?aP (fun _ hk => hk.elim) ?aF ?aO ?aB ?aS ?aL ?_; (case aP => exact k34_mkM _ _ _ (⟨wrap64 ((wrap64 (100 * x8_2)) + x9_3), 1, 1⟩ : S34)); (case aB => exact (by repeat (first | (with_reducible first | exact HB.out | apply below_alloc | apply pw_below_drewN | apply below_drew1) | exact HB.out))); (case aF => exact (fun k_ hk => .inr ⟨trivial, hk⟩)); (case aO => exact (by (with_reducible repeat (first | apply Kd.R_alloc | apply Kd.R_drewN | apply Kd.R_drew)); exact Kd.R_mono UU29.out (fun _ hk => .inl hk))); (case aS => exact (below_size (by repeat (first | (with_reducible first | exact HB.out | apply below_alloc | apply pw_below_drewN | apply below_drew1) | exact HB.out)))); (case aL => have := LMc26.out; omega); intro v313 w30 ho hb hg hat; rw [← Ny312.out] at ho; have n0_ := Aside0.mk (Kd.R_over' (v := (.slice A311_0 (rd_L2 x6_3 x8_2).length c311_0)) (by (with_reducible repeat (first | apply Kd.R_alloc | apply Kd.R_drewN | apply Kd.R_drew)); exact HO_7.out) (Kd.R_typed HL311_0.out) (by decide) hg); have n1_ := Aside0.mk (hb); have n2_ := Aside0.mk (Kd.H_grown (Kd.H_widen (by repeat (first | exact HH29.out | refine Kd.H_alloc ?_ _ | refine Kd.H_drewN ?_ _ | refine Kd.H_drew ?_))) hg (fun k_ e_ => .inl (UU29.out.1 k_ e_))); have n3_ := Aside0.mk (ho); clear HO_7; clear HB; clear HH29; clear HO_6; clear UU29; clear HL311_0; have HO_7 := n0_; have HB := n1_; have HH29 := n2_; have HO314 := n3_; clear n0_ n1_ n2_ n3_; clear ho hb hg hat; have p27 : 0 ≤ (x8_2 : Int) := of_decide_eq_true (by first | (with_reducible assumption) | assumption); have q27 : (x8_2 : Int) < ((x6_3.length : Int) : Int) := of_decide_eq_true (by first | (with_reducible assumption) | assumption); replace p27 := eq_true p27; replace q27 := eq_true q27; obtain ⟨Ao33, co33, eo33⟩ := Kd.R_slice HO314.out; subst eo33; obtain ⟨_, _, hraw31, _, _, hcc31, _⟩ := Kd.H_raw HH29.out (of_decide_eq_true (by first | (with_reducible assumption) | assumption)) (by have h_ : (x8_2 : Int) < ((x6_3.length : Int) : Int) := of_decide_eq_true (by first | (with_reducible assumption) | assumption); first | exact h_ | (have e_ := (HN29.out); omega) | simpa using h_); obtain ⟨_, hfr31⟩ := Kd.H_at HH29.out (of_decide_eq_true (by first | (with_reducible assumption) | assumption)) (by have h_ : (x8_2 : Int) < ((x6_3.length : Int) : Int) := of_decide_eq_true (by first | (with_reducible assumption) | assumption); first | exact h_ | (have e_ := (HN29.out); omega) | simpa using h_); have hx31_0 := hcc31 0 _ rfl; have hf31_0 := hfr31 0; (try simp only [Nat.add_zero] at hx31_0 hf31_0); (try rw [show ((Kd.slice 34 k34)).sz = 1 from rfl, Nat.mul_one] at hx31_0); (try rw [show ((Kd.slice 34 k34)).sz = 1 from rfl, Nat.mul_one] at hf31_0); have HP31 := Kd.S_seg0 HH29.out (of_decide_eq_true (by first | (with_reducible assumption) | assumption)) (by have h_ : (x8_2 : Int) < ((x6_3.length : Int) : Int) := of_decide_eq_true (by first | (with_reducible assumption) | assumption); first | exact h_ | (have e_ := (HN29.out); omega) | simpa using h_) (seg := [.slice Ao33 y312.length co33]) (j := 0) (show 1 ≤ 1 from by decide) (x' := y312) (Kd.M_row HO314.out) (fun _ hk => hk); (try simp only [show ((Kd.slice 34 k34)).sz = 1 from rfl, Nat.mul_one, Nat.add_zero] at HP31); clear hcc31 hfr31) | ((with_reducible refine gate_store (t := 32) (p := 63) rfl ?_); (try (rw [drewN_self w30]; generalize hq_ : World.drewN w30 _ = w30; have n0_ := Aside0.mk (Kd.R_at hq_ HO_7.out); have n1_ := Aside0.mk (Kd.S_at hq_ HO_6.out); have n2_ := Aside0.mk (below_at hq_ HB.out); clear hq_ HO_7 HO_6 HB; have HO_7 := n0_; have HO_6 := n1_; have HB := n2_; clear n0_ n1_ n2_; (try (obtain ⟨Ao33, co33, eo33⟩ := Kd.R_slice HO314.out)); (try (subst eo33)); (try (obtain ⟨_, _, hraw31, _, _, hcc31, _⟩ := Kd.H_raw HH29.out (of_decide_eq_true (by first | (with_reducible assumption) | assumption)) (by have h_ : (x8_2 : Int) < ((x6_3.length : Int) : Int) := of_decide_eq_true (by first | (with_reducible assumption) | assumption); first | exact h_ | (have e_ := (HN29.out); omega) | simpa using h_))); (try (obtain ⟨_, hfr31⟩ := Kd.H_at HH29.out (of_decide_eq_true (by first | (with_reducible assumption) | assumption)) (by have h_ : (x8_2 : Int) < ((x6_3.length : Int) : Int) := of_decide_eq_true (by first | (with_reducible assumption) | assumption); first | exact h_ | (have e_ := (HN29.out); omega) | simpa using h_))); (try (have hx31_0 := hcc31 0 _ rfl)); (try (have hf31_0 := hfr31 0)); (try (try simp only [Nat.add_zero] at hx31_0 hf31_0)); (try (try rw [show ((Kd.slice 34 k34)).sz = 1 from rfl, Nat.mul_one] at hx31_0)); (try (try rw [show ((Kd.slice 34 k34)).sz = 1 from rfl, Nat.mul_one] at hf31_0)); (try (have HP31 := Kd.S_seg0 HH29.out (of_decide_eq_true (by first | (with_reducible assumption) | assumption)) (by have h_ : (x8_2 : Int) < ((x6_3.length : Int) : Int) := of_decide_eq_true (by first | (with_reducible assumption) | assumption); first | exact h_ | (have e_ := (HN29.out); omega) | simpa using h_) (seg := [.slice Ao33 y312.length co33]) (j := 0) (show 1 ≤ 1 from by decide) (x' := y312) (Kd.M_row HO314.out) (fun _ hk => hk))); (try (try simp only [show ((Kd.slice 34 k34)).sz = 1 from rfl, Nat.mul_one, Nat.add_zero] at HP31)); (try (clear hcc31 hfr31)))); refine store_event (t := 32) (p := 63) (v := ?vo_w32) (w1 := (w30.setCell ⟨go29, (x8_2 : Int).toNat, none⟩ (.slice Ao33 y312.length co33))) ?hg ?ho ?hn ?hr ?_; (case ho => rfl); (case hg => rfl); (case hn => rfl); (case hr => first | (go_simp; done) | (go_simp; rfl)); intro w32 hw; have hg : w30.grownBy w32 (some go29) := (by rw [hw]; exact HP31.2); have hp_ : Kd.S (Kd.slice 34 k34) 32 w32 w.heap.size (fun _ => True) (.slice (some ⟨go29, 0, none⟩) x6_3.length co28) y315 := (by rw [hw, Ny315.out]; exact HP31.1); clear HP31; have n0_ := Aside0.mk (Kd.R_over' (v := (.slice (some ⟨go29, 0, none⟩) x6_3.length co28)) (by (with_reducible repeat (first | apply Kd.R_alloc | apply Kd.R_drewN | apply Kd.R_drew)); exact HO_7.out) (Kd.R_typed hraw31) (by decide) hg); have n1_ := Aside0.mk ((by rw [hw]; exact below_set HB.out GB29.out : Below w.heap.size w w32)); have n2_ := Aside0.mk (hp_); clear HO_7; clear HB; clear HO314; clear HH29; have HO_7 := n0_; have HB := n1_; have HO_6 := n2_; clear n0_ n1_ n2_; clear hg hw hp_ hraw31)))
                                    (try simp only [← hl7_3])
                                    go_roundg k3
                                    case measure => have := HJ3.out; have := HK2.out; have := HK3.out; omega
                                    case rel => exact ⟨(y315), (wrap64 (x9_3 + 1)), (by first | rfl | (simp; done) | (simp [*]; done)), H', ⟨by have := HJ3.out; have := HK2.out; have := HK3.out; omega⟩, ⟨by (try simp only [hl7_3]); (with_reducible repeat (first | apply Kd.S_alloc | apply Kd.S_drewN | apply Kd.S_drew)); exact HO_6.out⟩, ⟨by (try simp only [hl7_3]); (with_reducible repeat (first | apply Kd.R_alloc | apply Kd.R_drewN | apply Kd.R_drew)); exact HO_7.out⟩, ⟨by repeat (first | (with_reducible first | exact HB.out | apply below_alloc | apply pw_below_drewN | apply below_drew1) | exact HB.out)⟩⟩
                                  · rw [if_neg c26] at H
                                    exact absurd H (by simp)
                                · rw [if_neg c25] at H
                                  exact absurd H (by simp)
                              · rw [if_neg c24] at H
                                exact absurd H (by simp)
                            · rw [if_neg c23] at H
                              have c23b0 : decide (x9_3 < a1) = false := decide_eq_false c23
                              clear c23
                              have H' := Aside0.mk H
                              clear H
                              go_wp2
                              repeat (go_quiet (fail); try go_wp2)
                              (try simp only [← hl7_3])
                              go_roundg k3
                              case measure => have := HJ3.out; have := HK2.out; have := HK3.out; omega
                              case rel => exact ⟨(x6_3), (y310), (wrap64 (x8_2 + 1)), (by first | rfl | (simp; done) | (simp [*]; done)), H', ⟨by have := HJ3.out; have := HK2.out; have := HK3.out; omega⟩, ⟨by (try simp only [hl7_3]); (with_reducible repeat (first | apply Kd.S_alloc | apply Kd.S_drewN | apply Kd.S_drew)); exact HO_6.out⟩, ⟨by (try simp only [hl7_3]); (with_reducible repeat (first | apply Kd.R_alloc | apply Kd.R_drewN | apply Kd.R_drew)); exact HO_7.out⟩, ⟨by repeat (first | (with_reducible first | exact HB.out | apply below_alloc | apply pw_below_drewN | apply below_drew1) | exact HB.out)⟩⟩
                      · rw [if_neg c19] at H
                        exact absurd H (by simp)
                    · rw [if_neg c18] at H
                      exact absurd H (by simp)
                  · rw [if_neg c17] at H
                    have c17b0 : decide (x8_2 < a0) = false := decide_eq_false c17
                    clear c17
                    replace H := Option.bind_eq_some_iff.mp H
                    obtain ⟨⟨t316, t317, t318⟩, A340, H⟩ := H
                    replace H : (if t318 = 0 then (if (t316.length : Int) = (wrap64 (a0 * a1)) then (if t317 = a1 then (purflinglaw07_GridPlain.j3 k2 a0 a1 t303 t316 t317 false) else (purflinglaw07_GridPlain.j3 k2 a0 a1 t303 t316 t317 (decide (a0 > 0)))) else (purflinglaw07_GridPlain.j3 k2 a0 a1 t303 t316 t317 true)) else (purflinglaw07_GridPlain.j3 k2 a0 a1 t303 t316 t317 true)) = some r := H
                    have A34 := Aside0.mk A340
                    clear A340
                    have HC35 := Aside0.mk H
                    clear H
                    obtain ⟨Ao36, co36, eo36⟩ := Kd.S_slice HO_6.out
                    subst eo36
                    obtain ⟨Ao37, co37, eo37⟩ := Kd.R_slice HO_7.out
                    subst eo37
                    go_upto_region 15 with (first | (go_at_call 17; (with_reducible refine (grid_Lay.calls _ _ x6_2 _ _ x7_2 t316 t317 t318 _ ?side1 ?side2 ?side3 ?side4 A34.out).mono ?_); (case side1 => repeat (first | exact (Kd.S_reads' HO_6.out).2.2 | (with_reducible refine Kd.C_alloc ?_ _) | (with_reducible refine Kd.C_drewN ?_ _) | (with_reducible refine Kd.C_drew ?_))); (case side2 => exact (Kd.S_reads' HO_6.out).2.1); (case side3 => repeat (first | exact (Kd.R_reads' HO_7.out).2.2 | (with_reducible refine Kd.C_alloc ?_ _) | (with_reducible refine Kd.C_drewN ?_ _) | (with_reducible refine Kd.C_drew ?_))); (case side4 => exact (Kd.R_reads' HO_7.out).2.1); rintro e w38 ⟨v319, rfl, ho0, hb⟩; have n0_ := Aside0.mk (Kd.S_below (by (with_reducible repeat (first | apply Kd.S_alloc | apply Kd.S_drewN | apply Kd.S_drew)); exact HO_6.out) hb); have n1_ := Aside0.mk (Kd.R_below (by (with_reducible repeat (first | apply Kd.R_alloc | apply Kd.R_drewN | apply Kd.R_drew)); exact HO_7.out) hb); have n2_ := Aside0.mk (Kd.R_lower ho0 (below_size (by repeat (first | (with_reducible first | exact HB.out | apply below_alloc | apply pw_below_drewN | apply below_drew1) | exact HB.out)))); have n3_ := Aside0.mk (below_step (by repeat (first | (with_reducible first | exact HB.out | apply below_alloc | apply pw_below_drewN | apply below_drew1) | exact HB.out)) hb); clear HO_6; clear HO_7; clear HB; have HO_6 := n0_; have HO_7 := n1_; have HO320 := n2_; have HB := n3_; clear n0_ n1_ n2_ n3_; (try clear hb); (try clear hb2); (try clear hk); (try clear hi); (try clear ho0)))
                    repeat (go_quiet (first | (go_at_call 17; (with_reducible refine (grid_Lay.calls _ _ x6_2 _ _ x7_2 t316 t317 t318 _ ?side1 ?side2 ?side3 ?side4 A34.out).mono ?_); (case side1 => repeat (first | exact (Kd.S_reads' HO_6.out).2.2 | (with_reducible refine Kd.C_alloc ?_ _) | (with_reducible refine Kd.C_drewN ?_ _) | (with_reducible refine Kd.C_drew ?_))); (case side2 => exact (Kd.S_reads' HO_6.out).2.1); (case side3 => repeat (first | exact (Kd.R_reads' HO_7.out).2.2 | (with_reducible refine Kd.C_alloc ?_ _) | (with_reducible refine Kd.C_drewN ?_ _) | (with_reducible refine Kd.C_drew ?_))); (case side4 => exact (Kd.R_reads' HO_7.out).2.1); rintro e w38 ⟨v319, rfl, ho0, hb⟩; have n0_ := Aside0.mk (Kd.S_below (by (with_reducible repeat (first | apply Kd.S_alloc | apply Kd.S_drewN | apply Kd.S_drew)); exact HO_6.out) hb); have n1_ := Aside0.mk (Kd.R_below (by (with_reducible repeat (first | apply Kd.R_alloc | apply Kd.R_drewN | apply Kd.R_drew)); exact HO_7.out) hb); have n2_ := Aside0.mk (Kd.R_lower ho0 (below_size (by repeat (first | (with_reducible first | exact HB.out | apply below_alloc | apply pw_below_drewN | apply below_drew1) | exact HB.out)))); have n3_ := Aside0.mk (below_step (by repeat (first | (with_reducible first | exact HB.out | apply below_alloc | apply pw_below_drewN | apply below_drew1) | exact HB.out)) hb); clear HO_6; clear HO_7; clear HB; have HO_6 := n0_; have HO_7 := n1_; have HO320 := n2_; have HB := n3_; clear n0_ n1_ n2_ n3_; (try clear hb); (try clear hb2); (try clear hk); (try clear hi); (try clear ho0))); go_upto_region 15 with (first | (go_at_call 17; (with_reducible refine (grid_Lay.calls _ _ x6_2 _ _ x7_2 t316 t317 t318 _ ?side1 ?side2 ?side3 ?side4 A34.out).mono ?_); (case side1 => repeat (first | exact (Kd.S_reads' HO_6.out).2.2 | (with_reducible refine Kd.C_alloc ?_ _) | (with_reducible refine Kd.C_drewN ?_ _) | (with_reducible refine Kd.C_drew ?_))); (case side2 => exact (Kd.S_reads' HO_6.out).2.1); (case side3 => repeat (first | exact (Kd.R_reads' HO_7.out).2.2 | (with_reducible refine Kd.C_alloc ?_ _) | (with_reducible refine Kd.C_drewN ?_ _) | (with_reducible refine Kd.C_drew ?_))); (case side4 => exact (Kd.R_reads' HO_7.out).2.1); rintro e w38 ⟨v319, rfl, ho0, hb⟩; have n0_ := Aside0.mk (Kd.S_below (by (with_reducible repeat (first | apply Kd.S_alloc | apply Kd.S_drewN | apply Kd.S_drew)); exact HO_6.out) hb); have n1_ := Aside0.mk (Kd.R_below (by (with_reducible repeat (first | apply Kd.R_alloc | apply Kd.R_drewN | apply Kd.R_drew)); exact HO_7.out) hb); have n2_ := Aside0.mk (Kd.R_lower ho0 (below_size (by repeat (first | (with_reducible first | exact HB.out | apply below_alloc | apply pw_below_drewN | apply below_drew1) | exact HB.out)))); have n3_ := Aside0.mk (below_step (by repeat (first | (with_reducible first | exact HB.out | apply below_alloc | apply pw_below_drewN | apply below_drew1) | exact HB.out)) hb); clear HO_6; clear HO_7; clear HB; have HO_6 := n0_; have HO_7 := n1_; have HO320 := n2_; have HB := n3_; clear n0_ n1_ n2_ n3_; (try clear hb); (try clear hb2); (try clear hk); (try clear hi); (try clear ho0))))
                    (try simp only [Act.put, List.setIfInBounds_toArray, List.set_cons_zero, List.set_cons_succ])
                    go_cut [89] (fun v89 wc => ∃ (kq : Nat) (x89_34 : Bool), v89 = .bool x89_34 ∧ Aside0 (purflinglaw07_GridPlain.j3 kq a0 a1 t303 t316 t317 x89_34 = some r) ∧ Aside0 (kq ≤ k2) ∧ Aside0 (Kd.R k40 40 wc w.heap.size (fun _ => True) v319 t316) ∧ Aside0 (Below w.heap.size w wc))
                    case first =>
                      have H := HC35.out
                      clear HC35
                      by_cases c39 : t318 = 0
                      · rw [if_pos c39] at H
                        have c39b0 : (t318 == 0) = true := beq_iff_eq.mpr c39
                        have c39b1 : (t318 != 0) = false := bne_eq_false_iff_eq.mpr c39
                        clear c39
                        (first | rw [c39b0] | (simp only [i64_w, i32_w]; rw [c39b0]) | skip)
                        by_cases c40 : (t316.length : Int) = (wrap64 (a0 * a1))
                        · rw [if_pos c40] at H
                          have c40b0 : ((t316.length : Int) == (wrap64 (a0 * a1))) = true := beq_iff_eq.mpr c40
                          have c40b1 : ((t316.length : Int) != (wrap64 (a0 * a1))) = false := bne_eq_false_iff_eq.mpr c40
                          clear c40
                          by_cases c41 : t317 = a1
                          · rw [if_pos c41] at H
                            have c41b0 : (t317 == a1) = true := beq_iff_eq.mpr c41
                            have c41b1 : (t317 != a1) = false := bne_eq_false_iff_eq.mpr c41
                            clear c41
                            have H' := Aside0.mk H
                            clear H
                            obtain ⟨Ao42, co42, eo42⟩ := Kd.R_slice HO320.out
                            subst eo42
                            go_wp2
                            repeat (go_quiet (fail); try go_wp2)
                            go_meet
                            case rel => exact ⟨_, (false), (by first | rfl | (simp; done) | (simp [*]; done)), H', ⟨by have := HJ3.out; have := HK2.out; first | omega | exact Nat.le_refl _⟩, ⟨by (with_reducible repeat (first | apply Kd.R_alloc | apply Kd.R_drewN | apply Kd.R_drew)); exact HO320.out⟩, ⟨by repeat (first | (with_reducible first | exact HB.out | apply below_alloc | apply pw_below_drewN | apply below_drew1) | exact HB.out)⟩⟩
                          · rw [if_neg c41] at H
                            have c41b0 : (t317 == a1) = false := beq_eq_false_iff_ne.mpr c41
                            have c41b1 : (t317 != a1) = true := bne_iff_ne.mpr c41
                            have H' := Aside0.mk H
                            clear H
                            obtain ⟨Ao43, co43, eo43⟩ := Kd.R_slice HO320.out
                            subst eo43
                            go_wp2
                            repeat (go_quiet (fail); try go_wp2)
                            go_meet
                            case rel => exact ⟨_, (decide (a0 > 0)), (by first | rfl | (simp; done) | (simp [*]; done)), H', ⟨by have := HJ3.out; have := HK2.out; first | omega | exact Nat.le_refl _⟩, ⟨by (with_reducible repeat (first | apply Kd.R_alloc | apply Kd.R_drewN | apply Kd.R_drew)); exact HO320.out⟩, ⟨by repeat (first | (with_reducible first | exact HB.out | apply below_alloc | apply pw_below_drewN | apply below_drew1) | exact HB.out)⟩⟩
                        · rw [if_neg c40] at H
                          have c40b0 : ((t316.length : Int) == (wrap64 (a0 * a1))) = false := beq_eq_false_iff_ne.mpr c40
                          have c40b1 : ((t316.length : Int) != (wrap64 (a0 * a1))) = true := bne_iff_ne.mpr c40
                          have H' := Aside0.mk H
                          clear H
                          obtain ⟨Ao44, co44, eo44⟩ := Kd.R_slice HO320.out
                          subst eo44
                          go_wp2
                          repeat (go_quiet (fail); try go_wp2)
                          go_meet
                          case rel => exact ⟨_, (true), (by first | rfl | (simp; done) | (simp [*]; done)), H', ⟨by have := HJ3.out; have := HK2.out; first | omega | exact Nat.le_refl _⟩, ⟨by (with_reducible repeat (first | apply Kd.R_alloc | apply Kd.R_drewN | apply Kd.R_drew)); exact HO320.out⟩, ⟨by repeat (first | (with_reducible first | exact HB.out | apply below_alloc | apply pw_below_drewN | apply below_drew1) | exact HB.out)⟩⟩
                      · rw [if_neg c39] at H
                        have c39b0 : (t318 == 0) = false := beq_eq_false_iff_ne.mpr c39
                        have c39b1 : (t318 != 0) = true := bne_iff_ne.mpr c39
                        (first | rw [c39b0] | (simp only [i64_w, i32_w]; rw [c39b0]) | skip)
                        have H' := Aside0.mk H
                        clear H
                        go_wp2
                        repeat (go_quiet (fail); try go_wp2)
                        go_meet
                        case rel => exact ⟨_, (true), (by first | rfl | (simp; done) | (simp [*]; done)), H', ⟨by have := HJ3.out; have := HK2.out; first | omega | exact Nat.le_refl _⟩, ⟨by (with_reducible repeat (first | apply Kd.R_alloc | apply Kd.R_drewN | apply Kd.R_drew)); exact HO320.out⟩, ⟨by repeat (first | (with_reducible first | exact HB.out | apply below_alloc | apply pw_below_drewN | apply below_drew1) | exact HB.out)⟩⟩
                    case rest =>
                      clear HC35
                      try clear c1
                      try clear c2
                      try clear p2
                      try clear q2
                      try clear hx2
                      try clear hf2
                      try clear c3
                      try clear p3
                      try clear q3
                      try clear hx3
                      try clear hf3
                      try clear c4
                      try clear c6
                      try clear c6b0
                      try clear p6
                      try clear c7
                      try clear c7b0
                      try clear c8
                      try clear c8b0
                      try clear c9
                      try clear c10
                      try clear c10b0
                      try clear c10b1
                      try clear c11
                      try clear c11b0
                      try clear c11b1
                      try clear c12
                      try clear c12b0
                      try clear c12b1
                      try clear c17
                      try clear c17b0
                      try clear c18
                      try clear c18b0
                      try clear c19
                      try clear c19b0
                      try clear p20
                      try clear q20
                      try clear hx20
                      try clear hf20
                      try clear c23
                      try clear c23b0
                      try clear c24
                      try clear c24b0
                      try clear c25
                      try clear c25b0
                      try clear c26
                      try clear p27
                      try clear q27
                      try clear c29
                      try clear c31
                      try clear p31
                      try clear q31
                      try clear hx31
                      try clear hf31
                      try clear c39
                      try clear c39b0
                      try clear c39b1
                      try clear c40
                      try clear c40b0
                      try clear c40b1
                      try clear c41
                      try clear c41b0
                      try clear c41b1
                      try clear hx20_0
                      try clear hx311_0
                      try clear hx31_0
                      try clear p2
                      try clear p20
                      try clear p27
                      try clear p311
                      try clear q2
                      try clear q20
                      try clear q27
                      try clear q311
                      obtain ⟨kq, x89_34, rfl, HA, HJ34, HO_10, HB⟩ := hcut
                      cases kq with
                      | zero => exact absurd HA.out (by simp [purflinglaw07_GridPlain.j3])
                      | succ kj34 =>
                        have H := HA.out
                        clear HA
                        simp only [purflinglaw07_GridPlain.j3] at H
                        by_cases c45 : x89_34 = true
                        · subst c45
                          have H1 : (some false) = some r := by rw [if_pos rfl] at H; exact H
                          clear H
                          have H := H1
                          clear H1
                          obtain rfl := Option.some.inj H
                          go_wp2
                          repeat (go_quiet (fail); try go_wp2)
                          go_ret
                          exact ⟨by first | rfl | (simp [errW_none, errW_some] <;> rfl) | (simp [*, errW_none, errW_some] <;> rfl), by repeat (first | (with_reducible first | exact HB.out | apply below_alloc | apply pw_below_drewN | apply below_drew1) | exact HB.out)⟩
                        · replace c45 := Bool.eq_false_iff.mpr c45
                          subst c45
                          have H1 : (purflinglaw07_GridPlain.l2 kj34 a0 a1 t303 t316 t317 0) = some r := by rw [if_neg (show ¬ (false = true) by decide)] at H; exact H
                          clear H
                          have H := H1
                          clear H1
                          have H' := Aside0.mk H
                          clear H
                          go_wp2
                          repeat (go_quiet (fail); try go_wp2)
                          go_loopg [13] kj34 (fun kq v13 w' => ∃ (x13_4 : Int), v13 = .int .i64 x13_4 ∧ Aside0 (purflinglaw07_GridPlain.l2 kq a0 a1 t303 t316 t317 x13_4 = some r) ∧ Aside0 (kq ≤ kj34) ∧ Aside0 (Kd.R k40 40 w' w.heap.size (fun _ => True) v319 t316) ∧ Aside0 (Below w.heap.size w w'))
                          case atStart => exact ⟨(0), (by first | rfl | (simp; done) | (simp [*]; done)), H', ⟨Nat.le_refl _⟩, ⟨by (with_reducible repeat (first | apply Kd.R_alloc | apply Kd.R_drewN | apply Kd.R_drew)); exact HO_10.out⟩, ⟨by repeat (first | (with_reducible first | exact HB.out | apply below_alloc | apply pw_below_drewN | apply below_drew1) | exact HB.out)⟩⟩
                          case round =>
                            clear H'
                            try clear c1
                            try clear c2
                            try clear p2
                            try clear q2
                            try clear hx2
                            try clear hf2
                            try clear c3
                            try clear p3
                            try clear q3
                            try clear hx3
                            try clear hf3
                            try clear c4
                            try clear c6
                            try clear c6b0
                            try clear p6
                            try clear c7
                            try clear c7b0
                            try clear c8
                            try clear c8b0
                            try clear c9
                            try clear c10
                            try clear c10b0
                            try clear c10b1
                            try clear c11
                            try clear c11b0
                            try clear c11b1
                            try clear c12
                            try clear c12b0
                            try clear c12b1
                            try clear c17
                            try clear c17b0
                            try clear c18
                            try clear c18b0
                            try clear c19
                            try clear c19b0
                            try clear p20
                            try clear q20
                            try clear hx20
                            try clear hf20
                            try clear c23
                            try clear c23b0
                            try clear c24
                            try clear c24b0
                            try clear c25
                            try clear c25b0
                            try clear c26
                            try clear p27
                            try clear q27
                            try clear c29
                            try clear c31
                            try clear p31
                            try clear q31
                            try clear hx31
                            try clear hf31
                            try clear c39
                            try clear c39b0
                            try clear c39b1
                            try clear c40
                            try clear c40b0
                            try clear c40b1
                            try clear c41
                            try clear c41b0
                            try clear c41b1
                            try clear c45
                            try clear hx20_0
                            try clear hx311_0
                            try clear hx31_0
                            try clear p2
                            try clear p20
                            try clear p27
                            try clear p3
                            try clear p31
                            try clear p311
                            try clear p6
                            try clear q2
                            try clear q20
                            try clear q27
                            try clear q3
                            try clear q31
                            try clear q311
                            obtain ⟨x13_4, rfl, HA, HK4, HO_10, HB⟩ := hrel
                            cases gk with
                            | zero => exact absurd HA.out (by simp [purflinglaw07_GridPlain.l2])
                            | succ k4 =>
                              have H := HA.out
                              clear HA
                              simp only [purflinglaw07_GridPlain.l2] at H
                              by_cases c46 : x13_4 < (t316.length : Int)
                              · rw [if_pos c46] at H
                                have c46b0 : decide (x13_4 < (t316.length : Int)) = true := decide_eq_true c46
                                clear c46
                                by_cases c47 : 0 ≤ x13_4
                                · rw [if_pos c47] at H
                                  have c47b0 : decide (0 ≤ x13_4) = true := decide_eq_true c47
                                  clear c47
                                  by_cases c48 : a1 = 0
                                  · rw [if_pos c48] at H
                                    exact absurd H (by simp)
                                  · rw [if_neg c48] at H
                                    have c48b0 : (a1 == 0) = false := beq_eq_false_iff_ne.mpr c48
                                    have c48b1 : (a1 != 0) = true := bne_iff_ne.mpr c48
                                    by_cases c49 : (!(((rd_T40 t316 x13_4).f0) == (wrap64 ((wrap64 (100 * (wrap64 (Int.tdiv x13_4 a1)))) + (Int.tmod x13_4 a1)))) || (!(((rd_T40 t316 x13_4).f1) == (wrap64 (Int.tdiv x13_4 a1))) || (!(((rd_T40 t316 x13_4).f2) == (Int.tmod x13_4 a1)) || (!(((rd_T40 t316 x13_4).f3) == 1) || (!(((rd_T40 t316 x13_4).f4) == 1)))))) = true
                                    · rw [if_pos c49] at H
                                      have c49b0 : (!(((rd_T40 t316 x13_4).f0) == (wrap64 ((wrap64 (100 * (wrap64 (Int.tdiv x13_4 a1)))) + (Int.tmod x13_4 a1)))) || (!(((rd_T40 t316 x13_4).f1) == (wrap64 (Int.tdiv x13_4 a1))) || (!(((rd_T40 t316 x13_4).f2) == (Int.tmod x13_4 a1)) || (!(((rd_T40 t316 x13_4).f3) == 1) || (!(((rd_T40 t316 x13_4).f4) == 1)))))) = true := c49
                                      clear c49
                                      obtain rfl := Option.some.inj H
                                      obtain ⟨Ao50, co50, eo50⟩ := Kd.R_slice HO_10.out
                                      subst eo50
                                      have p321 : 0 ≤ (x13_4 : Int) := of_decide_eq_true (by first | (with_reducible assumption) | assumption)
                                      have q321 : x13_4 < (t316.length : Int) := of_decide_eq_true (by first | (with_reducible assumption) | assumption)
                                      obtain ⟨ad321, e321, hx321_0, hx321_1, hx321_2, hx321_3, hx321_4⟩ := at_T40 (Kd.R_reads' HO_10.out).2.2 x13_4 p321 q321
                                      cases e321
                                      replace p321 := eq_true p321
                                      replace q321 := eq_true q321
                                      go_wp2
                                      repeat (go_quiet (fail); try go_wp2)
                                      go_ret
                                      exact ⟨by first | rfl | (simp [errW_none, errW_some] <;> rfl) | (simp [*, errW_none, errW_some] <;> rfl), by repeat (first | (with_reducible first | exact HB.out | apply below_alloc | apply pw_below_drewN | apply below_drew1) | exact HB.out)⟩
                                    · rw [if_neg c49] at H
                                      have c49b0 : (!(((rd_T40 t316 x13_4).f0) == (wrap64 ((wrap64 (100 * (wrap64 (Int.tdiv x13_4 a1)))) + (Int.tmod x13_4 a1)))) || (!(((rd_T40 t316 x13_4).f1) == (wrap64 (Int.tdiv x13_4 a1))) || (!(((rd_T40 t316 x13_4).f2) == (Int.tmod x13_4 a1)) || (!(((rd_T40 t316 x13_4).f3) == 1) || (!(((rd_T40 t316 x13_4).f4) == 1)))))) = false := by simpa using c49
                                      clear c49
                                      have H' := Aside0.mk H
                                      clear H
                                      obtain ⟨Ao51, co51, eo51⟩ := Kd.R_slice HO_10.out
                                      subst eo51
                                      have p321 : 0 ≤ (x13_4 : Int) := of_decide_eq_true (by first | (with_reducible assumption) | assumption)
                                      have q321 : x13_4 < (t316.length : Int) := of_decide_eq_true (by first | (with_reducible assumption) | assumption)
                                      obtain ⟨ad321, e321, hx321_0, hx321_1, hx321_2, hx321_3, hx321_4⟩ := at_T40 (Kd.R_reads' HO_10.out).2.2 x13_4 p321 q321
                                      cases e321
                                      replace p321 := eq_true p321
                                      replace q321 := eq_true q321
                                      go_wp2
                                      repeat (go_quiet (fail); try go_wp2)
                                      go_roundg k4
                                      case measure => have := HJ3.out; have := HK2.out; have := HJ34.out; have := HK4.out; omega
                                      case rel => exact ⟨(wrap64 (x13_4 + 1)), (by first | rfl | (simp; done) | (simp [*]; done)), H', ⟨by have := HJ3.out; have := HK2.out; have := HJ34.out; have := HK4.out; omega⟩, ⟨by (with_reducible repeat (first | apply Kd.R_alloc | apply Kd.R_drewN | apply Kd.R_drew)); exact HO_10.out⟩, ⟨by repeat (first | (with_reducible first | exact HB.out | apply below_alloc | apply pw_below_drewN | apply below_drew1) | exact HB.out)⟩⟩
                                · rw [if_neg c47] at H
                                  exact absurd H (by simp)
                              · rw [if_neg c46] at H
                                have c46b0 : decide (x13_4 < (t316.length : Int)) = false := decide_eq_false c46
                                clear c46
                                replace H := Option.bind_eq_some_iff.mp H
                                obtain ⟨⟨t322, t323⟩, A520, H⟩ := H
                                replace H : (if t303 = true then (if t323 = 0 then (some ((t322.length : Int) == 0)) else (some false)) else (some false)) = some r := H
                                have A52 := Aside0.mk A520
                                clear A520
                                by_cases c53 : t303 = true
                                · subst c53
                                  have H1 : (if t323 = 0 then (some ((t322.length : Int) == 0)) else (some false)) = some r := by rw [if_pos rfl] at H; exact H
                                  clear H
                                  have H := H1
                                  clear H1
                                  by_cases c54 : t323 = 0
                                  · rw [if_pos c54] at H
                                    have c54b0 : (t323 == 0) = true := beq_iff_eq.mpr c54
                                    have c54b1 : (t323 != 0) = false := bne_eq_false_iff_eq.mpr c54
                                    clear c54
                                    obtain rfl := Option.some.inj H
                                    obtain ⟨Ao55, co55, eo55⟩ := Kd.R_slice HO_10.out
                                    subst eo55
                                    go_wp2_with (first | (go_at_call 24; (with_reducible refine (grid_Empty.calls _ _ t316 a0 t317 t322 t323 _ ?side1 ?side2 A52.out).mono ?_); (case side1 => repeat (first | exact (Kd.R_reads' HO_10.out).2.2 | (with_reducible refine Kd.C_alloc ?_ _) | (with_reducible refine Kd.C_drewN ?_ _) | (with_reducible refine Kd.C_drew ?_))); (case side2 => exact (Kd.R_reads' HO_10.out).2.1); rintro e w56 ⟨v324, rfl, ho0, hb⟩; have n0_ := Aside0.mk (Kd.R_below (by (with_reducible repeat (first | apply Kd.R_alloc | apply Kd.R_drewN | apply Kd.R_drew)); exact HO_10.out) hb); have n1_ := Aside0.mk (Kd.R_lower ho0 (below_size (by repeat (first | (with_reducible first | exact HB.out | apply below_alloc | apply pw_below_drewN | apply below_drew1) | exact HB.out)))); have n2_ := Aside0.mk (below_step (by repeat (first | (with_reducible first | exact HB.out | apply below_alloc | apply pw_below_drewN | apply below_drew1) | exact HB.out)) hb); clear HO_10; clear HB; have HO_10 := n0_; have HO325 := n1_; have HB := n2_; clear n0_ n1_ n2_; (try clear hb); (try clear hb2); (try clear hk); (try clear hi); (try clear ho0); obtain ⟨Ao57, co57, eo57⟩ := Kd.R_slice HO325.out; subst eo57))
                                    repeat (go_quiet (first | (go_at_call 24; (with_reducible refine (grid_Empty.calls _ _ t316 a0 t317 t322 t323 _ ?side1 ?side2 A52.out).mono ?_); (case side1 => repeat (first | exact (Kd.R_reads' HO_10.out).2.2 | (with_reducible refine Kd.C_alloc ?_ _) | (with_reducible refine Kd.C_drewN ?_ _) | (with_reducible refine Kd.C_drew ?_))); (case side2 => exact (Kd.R_reads' HO_10.out).2.1); rintro e w56 ⟨v324, rfl, ho0, hb⟩; have n0_ := Aside0.mk (Kd.R_below (by (with_reducible repeat (first | apply Kd.R_alloc | apply Kd.R_drewN | apply Kd.R_drew)); exact HO_10.out) hb); have n1_ := Aside0.mk (Kd.R_lower ho0 (below_size (by repeat (first | (with_reducible first | exact HB.out | apply below_alloc | apply pw_below_drewN | apply below_drew1) | exact HB.out)))); have n2_ := Aside0.mk (below_step (by repeat (first | (with_reducible first | exact HB.out | apply below_alloc | apply pw_below_drewN | apply below_drew1) | exact HB.out)) hb); clear HO_10; clear HB; have HO_10 := n0_; have HO325 := n1_; have HB := n2_; clear n0_ n1_ n2_; (try clear hb); (try clear hb2); (try clear hk); (try clear hi); (try clear ho0); obtain ⟨Ao57, co57, eo57⟩ := Kd.R_slice HO325.out; subst eo57)); try go_wp2_with (first | (go_at_call 24; (with_reducible refine (grid_Empty.calls _ _ t316 a0 t317 t322 t323 _ ?side1 ?side2 A52.out).mono ?_); (case side1 => repeat (first | exact (Kd.R_reads' HO_10.out).2.2 | (with_reducible refine Kd.C_alloc ?_ _) | (with_reducible refine Kd.C_drewN ?_ _) | (with_reducible refine Kd.C_drew ?_))); (case side2 => exact (Kd.R_reads' HO_10.out).2.1); rintro e w56 ⟨v324, rfl, ho0, hb⟩; have n0_ := Aside0.mk (Kd.R_below (by (with_reducible repeat (first | apply Kd.R_alloc | apply Kd.R_drewN | apply Kd.R_drew)); exact HO_10.out) hb); have n1_ := Aside0.mk (Kd.R_lower ho0 (below_size (by repeat (first | (with_reducible first | exact HB.out | apply below_alloc | apply pw_below_drewN | apply below_drew1) | exact HB.out)))); have n2_ := Aside0.mk (below_step (by repeat (first | (with_reducible first | exact HB.out | apply below_alloc | apply pw_below_drewN | apply below_drew1) | exact HB.out)) hb); clear HO_10; clear HB; have HO_10 := n0_; have HO325 := n1_; have HB := n2_; clear n0_ n1_ n2_; (try clear hb); (try clear hb2); (try clear hk); (try clear hi); (try clear ho0); obtain ⟨Ao57, co57, eo57⟩ := Kd.R_slice HO325.out; subst eo57)))
                                    go_ret
                                    exact ⟨by first | rfl | (simp [errW_none, errW_some] <;> rfl) | (simp [*, errW_none, errW_some] <;> rfl), by repeat (first | (with_reducible first | exact HB.out | apply below_alloc | apply pw_below_drewN | apply below_drew1) | exact HB.out)⟩
                                  · rw [if_neg c54] at H
                                    have c54b0 : (t323 == 0) = false := beq_eq_false_iff_ne.mpr c54
                                    have c54b1 : (t323 != 0) = true := bne_iff_ne.mpr c54
                                    obtain rfl := Option.some.inj H
                                    obtain ⟨Ao58, co58, eo58⟩ := Kd.R_slice HO_10.out
                                    subst eo58
                                    go_wp2_with (first | (go_at_call 24; (with_reducible refine (grid_Empty.calls _ _ t316 a0 t317 t322 t323 _ ?side1 ?side2 A52.out).mono ?_); (case side1 => repeat (first | exact (Kd.R_reads' HO_10.out).2.2 | (with_reducible refine Kd.C_alloc ?_ _) | (with_reducible refine Kd.C_drewN ?_ _) | (with_reducible refine Kd.C_drew ?_))); (case side2 => exact (Kd.R_reads' HO_10.out).2.1); rintro e w59 ⟨v324, rfl, ho0, hb⟩; have n0_ := Aside0.mk (Kd.R_below (by (with_reducible repeat (first | apply Kd.R_alloc | apply Kd.R_drewN | apply Kd.R_drew)); exact HO_10.out) hb); have n1_ := Aside0.mk (Kd.R_lower ho0 (below_size (by repeat (first | (with_reducible first | exact HB.out | apply below_alloc | apply pw_below_drewN | apply below_drew1) | exact HB.out)))); have n2_ := Aside0.mk (below_step (by repeat (first | (with_reducible first | exact HB.out | apply below_alloc | apply pw_below_drewN | apply below_drew1) | exact HB.out)) hb); clear HO_10; clear HB; have HO_10 := n0_; have HO325 := n1_; have HB := n2_; clear n0_ n1_ n2_; (try clear hb); (try clear hb2); (try clear hk); (try clear hi); (try clear ho0)))
                                    repeat (go_quiet (first | (go_at_call 24; (with_reducible refine (grid_Empty.calls _ _ t316 a0 t317 t322 t323 _ ?side1 ?side2 A52.out).mono ?_); (case side1 => repeat (first | exact (Kd.R_reads' HO_10.out).2.2 | (with_reducible refine Kd.C_alloc ?_ _) | (with_reducible refine Kd.C_drewN ?_ _) | (with_reducible refine Kd.C_drew ?_))); (case side2 => exact (Kd.R_reads' HO_10.out).2.1); rintro e w59 ⟨v324, rfl, ho0, hb⟩; have n0_ := Aside0.mk (Kd.R_below (by (with_reducible repeat (first | apply Kd.R_alloc | apply Kd.R_drewN | apply Kd.R_drew)); exact HO_10.out) hb); have n1_ := Aside0.mk (Kd.R_lower ho0 (below_size (by repeat (first | (with_reducible first | exact HB.out | apply below_alloc | apply pw_below_drewN | apply below_drew1) | exact HB.out)))); have n2_ := Aside0.mk (below_step (by repeat (first | (with_reducible first | exact HB.out | apply below_alloc | apply pw_below_drewN | apply below_drew1) | exact HB.out)) hb); clear HO_10; clear HB; have HO_10 := n0_; have HO325 := n1_; have HB := n2_; clear n0_ n1_ n2_; (try clear hb); (try clear hb2); (try clear hk); (try clear hi); (try clear ho0))); try go_wp2_with (first | (go_at_call 24; (with_reducible refine (grid_Empty.calls _ _ t316 a0 t317 t322 t323 _ ?side1 ?side2 A52.out).mono ?_); (case side1 => repeat (first | exact (Kd.R_reads' HO_10.out).2.2 | (with_reducible refine Kd.C_alloc ?_ _) | (with_reducible refine Kd.C_drewN ?_ _) | (with_reducible refine Kd.C_drew ?_))); (case side2 => exact (Kd.R_reads' HO_10.out).2.1); rintro e w59 ⟨v324, rfl, ho0, hb⟩; have n0_ := Aside0.mk (Kd.R_below (by (with_reducible repeat (first | apply Kd.R_alloc | apply Kd.R_drewN | apply Kd.R_drew)); exact HO_10.out) hb); have n1_ := Aside0.mk (Kd.R_lower ho0 (below_size (by repeat (first | (with_reducible first | exact HB.out | apply below_alloc | apply pw_below_drewN | apply below_drew1) | exact HB.out)))); have n2_ := Aside0.mk (below_step (by repeat (first | (with_reducible first | exact HB.out | apply below_alloc | apply pw_below_drewN | apply below_drew1) | exact HB.out)) hb); clear HO_10; clear HB; have HO_10 := n0_; have HO325 := n1_; have HB := n2_; clear n0_ n1_ n2_; (try clear hb); (try clear hb2); (try clear hk); (try clear hi); (try clear ho0))))
                                    go_ret
                                    exact ⟨by first | rfl | (simp [errW_none, errW_some] <;> rfl) | (simp [*, errW_none, errW_some] <;> rfl), by repeat (first | (with_reducible first | exact HB.out | apply below_alloc | apply pw_below_drewN | apply below_drew1) | exact HB.out)⟩
                                · replace c53 := Bool.eq_false_iff.mpr c53
                                  subst c53
                                  have H1 : (some false) = some r := by rw [if_neg (show ¬ (false = true) by decide)] at H; exact H
                                  clear H
                                  have H := H1
                                  clear H1
                                  obtain rfl := Option.some.inj H
                                  obtain ⟨Ao60, co60, eo60⟩ := Kd.R_slice HO_10.out
                                  subst eo60
                                  go_wp2_with (first | (go_at_call 24; (with_reducible refine (grid_Empty.calls _ _ t316 a0 t317 t322 t323 _ ?side1 ?side2 A52.out).mono ?_); (case side1 => repeat (first | exact (Kd.R_reads' HO_10.out).2.2 | (with_reducible refine Kd.C_alloc ?_ _) | (with_reducible refine Kd.C_drewN ?_ _) | (with_reducible refine Kd.C_drew ?_))); (case side2 => exact (Kd.R_reads' HO_10.out).2.1); rintro e w61 ⟨v324, rfl, ho0, hb⟩; have n0_ := Aside0.mk (Kd.R_below (by (with_reducible repeat (first | apply Kd.R_alloc | apply Kd.R_drewN | apply Kd.R_drew)); exact HO_10.out) hb); have n1_ := Aside0.mk (Kd.R_lower ho0 (below_size (by repeat (first | (with_reducible first | exact HB.out | apply below_alloc | apply pw_below_drewN | apply below_drew1) | exact HB.out)))); have n2_ := Aside0.mk (below_step (by repeat (first | (with_reducible first | exact HB.out | apply below_alloc | apply pw_below_drewN | apply below_drew1) | exact HB.out)) hb); clear HO_10; clear HB; have HO_10 := n0_; have HO325 := n1_; have HB := n2_; clear n0_ n1_ n2_; (try clear hb); (try clear hb2); (try clear hk); (try clear hi); (try clear ho0)))
                                  repeat (go_quiet (first | (go_at_call 24; (with_reducible refine (grid_Empty.calls _ _ t316 a0 t317 t322 t323 _ ?side1 ?side2 A52.out).mono ?_); (case side1 => repeat (first | exact (Kd.R_reads' HO_10.out).2.2 | (with_reducible refine Kd.C_alloc ?_ _) | (with_reducible refine Kd.C_drewN ?_ _) | (with_reducible refine Kd.C_drew ?_))); (case side2 => exact (Kd.R_reads' HO_10.out).2.1); rintro e w61 ⟨v324, rfl, ho0, hb⟩; have n0_ := Aside0.mk (Kd.R_below (by (with_reducible repeat (first | apply Kd.R_alloc | apply Kd.R_drewN | apply Kd.R_drew)); exact HO_10.out) hb); have n1_ := Aside0.mk (Kd.R_lower ho0 (below_size (by repeat (first | (with_reducible first | exact HB.out | apply below_alloc | apply pw_below_drewN | apply below_drew1) | exact HB.out)))); have n2_ := Aside0.mk (below_step (by repeat (first | (with_reducible first | exact HB.out | apply below_alloc | apply pw_below_drewN | apply below_drew1) | exact HB.out)) hb); clear HO_10; clear HB; have HO_10 := n0_; have HO325 := n1_; have HB := n2_; clear n0_ n1_ n2_; (try clear hb); (try clear hb2); (try clear hk); (try clear hi); (try clear ho0))); try go_wp2_with (first | (go_at_call 24; (with_reducible refine (grid_Empty.calls _ _ t316 a0 t317 t322 t323 _ ?side1 ?side2 A52.out).mono ?_); (case side1 => repeat (first | exact (Kd.R_reads' HO_10.out).2.2 | (with_reducible refine Kd.C_alloc ?_ _) | (with_reducible refine Kd.C_drewN ?_ _) | (with_reducible refine Kd.C_drew ?_))); (case side2 => exact (Kd.R_reads' HO_10.out).2.1); rintro e w61 ⟨v324, rfl, ho0, hb⟩; have n0_ := Aside0.mk (Kd.R_below (by (with_reducible repeat (first | apply Kd.R_alloc | apply Kd.R_drewN | apply Kd.R_drew)); exact HO_10.out) hb); have n1_ := Aside0.mk (Kd.R_lower ho0 (below_size (by repeat (first | (with_reducible first | exact HB.out | apply below_alloc | apply pw_below_drewN | apply below_drew1) | exact HB.out)))); have n2_ := Aside0.mk (below_step (by repeat (first | (with_reducible first | exact HB.out | apply below_alloc | apply pw_below_drewN | apply below_drew1) | exact HB.out)) hb); clear HO_10; clear HB; have HO_10 := n0_; have HO325 := n1_; have HB := n2_; clear n0_ n1_ n2_; (try clear hb); (try clear hb2); (try clear hk); (try clear hi); (try clear ho0))))
                                  go_ret
                                  exact ⟨by first | rfl | (simp [errW_none, errW_some] <;> rfl) | (simp [*, errW_none, errW_some] <;> rfl), by repeat (first | (with_reducible first | exact HB.out | apply below_alloc | apply pw_below_drewN | apply below_drew1) | exact HB.out)⟩
            · rw [if_neg c12] at H
              exact absurd H (by simp)
          · rw [if_neg c11] at H
            exact absurd H (by simp)
        · rw [if_neg c10] at H
          exact absurd H (by simp)

/-- THE ONE PURE STATEMENT of purflinglaw07_GridPlain: yours. -/
def purflinglaw07_GridPlain.Pure : Prop := ∀ (a0 : Int) (a1 : Int), (Lit.int .i64 a0).wf = true → (Lit.int .i64 a1).wf = true → ∃ k, purflinglaw07_GridPlain.f k a0 a1 = some true
theorem purflinglaw07_GridPlain.walk (P : purflinglaw07_GridPlain.Pure) (a0 : Int) (a1 : Int) (w : World) (w0 : (Lit.int .i64 a0).wf = true) (w1 : (Lit.int .i64 a1).wf = true) :
    Calls Try.prog 8 #[.int .i64 a0, .int .i64 a1] w fun e w' => e = .returned (.bool true) ∧ Below w.heap.size w w' := by
  obtain ⟨k, h⟩ := P a0 a1 w0 w1
  refine (purflinglaw07_GridPlain.calls k a0 a1 true w h).mono ?_
  rintro e w' ⟨rfl, hd⟩
  exact ⟨rfl, hd⟩

end Go.Proofs.Ytfoocmmjefdojaa.K
