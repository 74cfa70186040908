-- PRINTED by print.py (a twelfth state) out of the translation. Not trusted: Lean checks it.
import Derived.Test.YtjhpkikgajgdmaaK0
namespace Go.Proofs.Ytjhpkikgajgdmaa.K
open Go.RowKit Go.Proofs.YtjhpkikgajgdmaaW.PrintWords Go.Proofs.YtjhpkikgajgdmaaW.PrintLast Go.Proofs.YtjhpkikgajgdmaaW.PrintMore
attribute [local go_sem] max2_int min2_int max_two min_two max_three min_three max_four min_four   -- for this text's walks alone
set_option linter.unusedVariables false
set_option linter.unusedSimpArgs false

/-! ### purflinglaw05_met: function 18 -/
mutual
def purflinglaw05_met.j0 : Nat → List (S43) → Int → Int → List Int → Option (List Int)
 | 0, _, _, _, _ => none
 | k + 1, x0, x1, x2, x3 => purflinglaw05_met.l0 k x0 x1 x2 x3 0
def purflinglaw05_met.l0 : Nat → List (S43) → Int → Int → List Int → Int → Option (List Int)
 | 0, _, _, _, _, _ => none
 | k + 1, x0, x1, x2, x3, x9 => if 0 ≤ x1 then (if x1 < (x0.length : Int) then (if x9 < (((rd_T43 x0 x1).f1).length : Int) then (if 0 ≤ x9 then (if (rd ((rd_T43 x0 x1).f1) x9) ≥ 0 then (if (rd ((rd_T43 x0 x1).f1) x9) < (x0.length : Int) then ((purflinglaw05_met.f k x0 (rd ((rd_T43 x0 x1).f1) x9) x2 x3).bind fun t252 => (purflinglaw05_met.l0 k x0 x1 x2 t252 (wrap64 (x9 + 1)))) else (purflinglaw05_met.l0 k x0 x1 x2 x3 (wrap64 (x9 + 1)))) else (purflinglaw05_met.l0 k x0 x1 x2 x3 (wrap64 (x9 + 1)))) else (none)) else (some x3)) else (none)) else (none)
def purflinglaw05_met.f : Nat → List (S43) → Int → Int → List Int → Option (List Int)
 | 0, _, _, _, _ => none
 | k + 1, l0, a1, a2, l3 => if (l3.length : Int) > a2 then (some l3) else (if a1 < a2 then (if l3.length < 17592186044416 then (purflinglaw05_met.j0 k l0 a1 a2 (l3 ++ [a1])) else (none)) else (purflinglaw05_met.j0 k l0 a1 a2 l3))
end
theorem purflinglaw05_met.mono_l : ∀ k, (∀ y0 y1 y2 y3, LeO (purflinglaw05_met.f k y0 y1 y2 y3) (purflinglaw05_met.f (k + 1) y0 y1 y2 y3)) ∧ (∀ y0 y1 y2 y3, LeO (purflinglaw05_met.j0 k y0 y1 y2 y3) (purflinglaw05_met.j0 (k + 1) y0 y1 y2 y3)) ∧ (∀ y0 y1 y2 y3 y4, LeO (purflinglaw05_met.l0 k y0 y1 y2 y3 y4) (purflinglaw05_met.l0 (k + 1) y0 y1 y2 y3 y4))
 | 0 => ⟨fun _ _ _ _ r h => by simp [purflinglaw05_met.f] at h, fun _ _ _ _ r h => by simp [purflinglaw05_met.j0] at h, fun _ _ _ _ _ r h => by simp [purflinglaw05_met.l0] at h⟩
 | k + 1 => by
  obtain ⟨ih0, ih1, ih2⟩ := purflinglaw05_met.mono_l k
  refine ⟨?_, ?_, ?_⟩
  · intro y0 y1 y2 y3
    unfold purflinglaw05_met.f
    repeat' first
    | (with_reducible exact ih0 _ _ _ _)
    | (with_reducible exact ih1 _ _ _ _)
    | (with_reducible exact ih2 _ _ _ _ _)
    | (with_reducible exact LeO.refl _)
    | (with_reducible exact LeO.none _)
    | (with_reducible refine LeO.ite ?_ ?_)
    | (with_reducible refine LeO.bind ?_ (fun _ => ?_))
    | exact ih0 _ _ _ _
    | exact ih1 _ _ _ _
    | exact ih2 _ _ _ _ _
    | exact LeO.none _
    | refine LeO.ite ?_ ?_
    | refine LeO.bind ?_ (fun _ => ?_)
  · intro y0 y1 y2 y3
    unfold purflinglaw05_met.j0
    repeat' first
    | (with_reducible exact ih0 _ _ _ _)
    | (with_reducible exact ih1 _ _ _ _)
    | (with_reducible exact ih2 _ _ _ _ _)
    | (with_reducible exact LeO.refl _)
    | (with_reducible exact LeO.none _)
    | (with_reducible refine LeO.ite ?_ ?_)
    | (with_reducible refine LeO.bind ?_ (fun _ => ?_))
    | exact ih0 _ _ _ _
    | exact ih1 _ _ _ _
    | exact ih2 _ _ _ _ _
    | exact LeO.none _
    | refine LeO.ite ?_ ?_
    | refine LeO.bind ?_ (fun _ => ?_)
  · intro y0 y1 y2 y3 y4
    unfold purflinglaw05_met.l0
    repeat' first
    | (with_reducible exact ih0 _ _ _ _)
    | (with_reducible exact ih1 _ _ _ _)
    | (with_reducible exact ih2 _ _ _ _ _)
    | (with_reducible exact LeO.refl _)
    | (with_reducible exact LeO.none _)
    | (with_reducible refine LeO.ite ?_ ?_)
    | (with_reducible refine LeO.bind ?_ (fun _ => ?_))
    | exact ih0 _ _ _ _
    | exact ih1 _ _ _ _
    | exact ih2 _ _ _ _ _
    | exact LeO.none _
    | refine LeO.ite ?_ ?_
    | refine LeO.bind ?_ (fun _ => ?_)
theorem purflinglaw05_met.mono : ∀ a0 a1 a2 a3 k, LeO (purflinglaw05_met.f k a0 a1 a2 a3) (purflinglaw05_met.f (k + 1) a0 a1 a2 a3) := by
 intro a0 a1 a2 a3 k
 obtain ⟨ih0, ih1, ih2⟩ := purflinglaw05_met.mono_l k
 exact ih0 a0 a1 a2 a3
set_option maxHeartbeats 8000000 in
set_option maxRecDepth 100000 in
theorem purflinglaw05_met.calls (k : Nat) : ∀ (A0 : Option Addr) (c0 : Nat) (l0 : List (S43)) (a1 : Int) (a2 : Int) (P3_ : Nat → Prop) (u9000_ : Value) (l3 : List Int) (r : List Int) (w0 w : World) (hB : Below w0.heap.size w0 w) (hr0 : ∀ W_, Kept w W_ (fun k_ => P3_ k_) → Kd.C k43 W_ A0 l0.length l0) (hc0 : l0.length ≤ c0) (ho3 : Kd.R (Kd.int .i64) 3 w w0.heap.size P3_ u9000_ l3) (h : purflinglaw05_met.f k l0 a1 a2 l3 = some r),
 Calls Try.prog 18 #[.slice A0 l0.length c0, .int .i64 a1, .int .i64 a2, u9000_] w fun e w' => ∃ v0_ : Value, e = .returned (v0_) ∧ Kd.R (Kd.int .i64) 3 w' w0.heap.size (fun k_ => (P3_ k_ ∨ w.heap.size ≤ k_)) v0_ r ∧ Below w0.heap.size w0 w' ∧ Kept w w' (fun k_ => P3_ k_) := by
 induction k using Nat.strongRecOn with
 | _ k ih =>
 intro A0 c0 l0 a1 a2 P3_ u9000_ l3 r w0 w hB hr0 hc0 ho3 h
 cases k with
 | zero => exact absurd h (by simp [purflinglaw05_met.f])
 | succ k =>
 simp only [purflinglaw05_met.f] at h
 have HR0 := Aside0.mk hr0
 have HC0 := Aside0.mk hc0
 clear hr0 hc0
 have HO3 := Aside0.mk (show Kd.R (Kd.int .i64) 3 w w0.heap.size (fun k_ => (P3_ k_ ∨ w.heap.size ≤ k_)) u9000_ l3 from Kd.R_mono ho3 (fun k_ hk => (.inl hk)))
 have HK := Aside0.mk (Kept.refl w (fun k_ => P3_ k_))
 have HW0 := Aside0.mk hB.size
 have HB := Aside0.mk hB
 clear hB
 have H : (if (l3.length : Int) > a2 then (some l3) else (if a1 < a2 then (if l3.length < 17592186044416 then (purflinglaw05_met.j0 k l0 a1 a2 (l3 ++ [a1])) else (none)) else (purflinglaw05_met.j0 k l0 a1 a2 l3))) = some r := h
 clear h
 by_cases c5 : (l3.length : Int) > a2
 · rw [if_pos c5] at H
   have c5b0 : decide (a2 < (l3.length : Int)) = true := decide_eq_true c5
   clear c5
   obtain rfl := Option.some.inj H
   obtain ⟨Ao6, co6, eo6⟩ := Kd.R_slice HO3.out
   subst eo6
   go_enter Try.func18, Try.ntmps18
   go_wp2
   go_ret
   exact ⟨_, by first | rfl | (simp [errW_none, errW_some] <;> rfl) | (simp [*, errW_none, errW_some] <;> rfl), by (with_reducible repeat (first | apply Kd.R_alloc | apply Kd.R_drewN | apply Kd.R_drew)); exact HO3.out, by repeat (first | (with_reducible first | exact HB.out | apply below_alloc | apply pw_below_drewN | apply below_drew1) | exact HB.out), by repeat (first | (with_reducible first | exact HK.out | apply Kept.alloc | apply Kept.drewN | apply Kept.drew) | exact HK.out)⟩
 · rw [if_neg c5] at H
   have c5b0 : decide (a2 < (l3.length : Int)) = false := decide_eq_false c5
   clear c5
   have HC7 := Aside0.mk H
   clear H
   obtain ⟨Ao8, co8, eo8⟩ := Kd.R_slice HO3.out
   subst eo8
   go_enter Try.func18, Try.ntmps18
   go_upto_if 17 with (fail)
   go_cut [3] (fun v3 wc => ∃ (kq : Nat) (x3_6 : List Int), Aside0 (purflinglaw05_met.j0 kq l0 a1 a2 x3_6 = some r) ∧ Aside0 (kq ≤ k) ∧ Aside0 (Kd.R (Kd.int .i64) 3 wc w0.heap.size (fun k_ => (P3_ k_ ∨ w.heap.size ≤ k_)) v3 x3_6) ∧ Aside0 (Kept w wc (fun k_ => P3_ k_)) ∧ Aside0 (Below w0.heap.size w0 wc))
   case first =>
    have H := HC7.out
    clear HC7
    by_cases c9 : a1 < a2
    · rw [if_pos c9] at H
      have c9b0 : decide (a1 < a2) = true := decide_eq_true c9
      clear c9
      (first | rw [c9b0] | (simp only [i64_w, i32_w]; rw [c9b0]) | skip)
      by_cases c10 : l3.length < 17592186044416
      · rw [if_pos c10] at H
        have LMc10 := Aside0.mk c10
        clear c10
        obtain ⟨y242, hy242⟩ : ∃ y_ : List Int, y_ = (l3 ++ [a1]) := ⟨_, rfl⟩
        replace H : (purflinglaw05_met.j0 k l0 a1 a2 y242) = some r := by first | (rw [hy242]; with_reducible exact H) | (have H2_ := (Option.bind_some _ _).symm.trans H; rw [hy242]; with_reducible exact H2_) | (have H2_ := (Option.bind_some _ _).symm.trans H; with_reducible exact H2_) | with_reducible exact H | (rw [hy242]; exact H) | exact H
        have Ny242 := Aside0.mk hy242
        clear hy242
        have H' := Aside0.mk H
        clear H
        go_wp2_with (first | ((with_reducible refine gate_builtin (b := .append) (xs := #[.tmp 18, .tmp 20]) rfl ?_); (try (refine gate_guard (by rfl) ?_; dsimp only)); at_builtin; refine Kd.R_append (Kd.int .i64) (w0 := w0) w0.heap.size rfl (.tmp 18) (.tmp 20) 30 3 (.int .i64 0) 8 rfl Try.underlying30 info3 rfl (by decide) (by omega) (.slice Ao8 l3.length co8) l3 a1 [.int .i64 a1] (fun k_ => (P3_ k_ ∨ w.heap.size ≤ k_)) (fun _ => False) rfl rfl ?aP (fun _ hk => hk.elim) ?aF ?aO ?aB ?aS ?aL ?_; (case aP => exact rfl); (case aB => exact (by repeat (first | (with_reducible first | exact HB.out | apply below_alloc | apply pw_below_drewN | apply below_drew1) | exact HB.out))); (case aF => exact (fun k_ hk => (.inr (Nat.le_trans (by first | exact HK.out.1 | exact (show Kept w _ (fun k_ => P3_ k_) from by repeat (first | (with_reducible first | exact HK.out | apply Kept.alloc | apply Kept.drewN | apply Kept.drew) | exact HK.out)).1) hk)))); (case aO => exact (by (with_reducible repeat (first | apply Kd.R_alloc | apply Kd.R_drewN | apply Kd.R_drew)); exact HO3.out)); (case aS => exact (below_size (by repeat (first | (with_reducible first | exact HB.out | apply below_alloc | apply pw_below_drewN | apply below_drew1) | exact HB.out)))); (case aL => have := LMc10.out; omega); intro v243 w11 ho hb hg hat; rw [← Ny242.out] at ho; have n0_ := Aside0.mk (hb); have n1_ := Aside0.mk (Kept.of_grown (S := (fun k_ => P3_ k_)) hg (by repeat (first | (with_reducible first | exact HK.out | apply Kept.alloc | apply Kept.drewN | apply Kept.drew) | exact HK.out)) (fun k_ e_ => (HO3.out.1 k_ e_))); have n2_ := Aside0.mk (ho); clear HB; clear HK; clear HO3; have HB := n0_; have HK := n1_; have HO244 := n2_; clear n0_ n1_ n2_; clear ho hb hg hat))
        go_meet
        case rel => exact ⟨_, (y242), H', ⟨by first | omega | exact Nat.le_refl _⟩, ⟨by (with_reducible repeat (first | apply Kd.R_alloc | apply Kd.R_drewN | apply Kd.R_drew)); exact HO244.out⟩, ⟨by repeat (first | (with_reducible first | exact HK.out | apply Kept.alloc | apply Kept.drewN | apply Kept.drew) | exact HK.out)⟩, ⟨by repeat (first | (with_reducible first | exact HB.out | apply below_alloc | apply pw_below_drewN | apply below_drew1) | exact HB.out)⟩⟩
      · rw [if_neg c10] at H
        exact absurd H (by simp)
    · rw [if_neg c9] at H
      have c9b0 : decide (a1 < a2) = false := decide_eq_false c9
      clear c9
      (first | rw [c9b0] | (simp only [i64_w, i32_w]; rw [c9b0]) | skip)
      have H' := Aside0.mk H
      clear H
      go_wp2
      go_meet
      case rel => exact ⟨_, (l3), H', ⟨by first | omega | exact Nat.le_refl _⟩, ⟨by (with_reducible repeat (first | apply Kd.R_alloc | apply Kd.R_drewN | apply Kd.R_drew)); exact HO3.out⟩, ⟨by repeat (first | (with_reducible first | exact HK.out | apply Kept.alloc | apply Kept.drewN | apply Kept.drew) | exact HK.out)⟩, ⟨by repeat (first | (with_reducible first | exact HB.out | apply below_alloc | apply pw_below_drewN | apply below_drew1) | exact HB.out)⟩⟩
   case rest =>
    clear HC7
    try clear c1
    try clear p2
    try clear c5
    try clear c5b0
    try clear c9
    try clear c9b0
    try clear c10
    obtain ⟨kq, x3_6, HA, HJ6, HO_3, HK, HB⟩ := hcut
    cases kq with
    | zero => exact absurd HA.out (by simp [purflinglaw05_met.j0])
    | succ kj6 =>
     have H := HA.out
     clear HA
     simp only [purflinglaw05_met.j0] at H
     have H' := Aside0.mk H
     clear H
     go_wp2
     go_loopg [3, 9] kj6 (fun kq v3 v9 w' => ∃ (x3_2 : List Int) (x9_2 : Int), v9 = .int .i64 x9_2 ∧ Aside0 (purflinglaw05_met.l0 kq l0 a1 a2 x3_2 x9_2 = some r) ∧ Aside0 (kq ≤ kj6) ∧ Aside0 (Kd.R (Kd.int .i64) 3 w' w0.heap.size (fun k_ => (P3_ k_ ∨ w.heap.size ≤ k_)) v3 x3_2) ∧ Aside0 (Kept w w' (fun k_ => P3_ k_)) ∧ Aside0 (Below w0.heap.size w0 w'))
     case atStart => exact ⟨(x3_6), (0), (by first | rfl | (simp; done) | (simp [*]; done)), H', ⟨Nat.le_refl _⟩, ⟨by (with_reducible repeat (first | apply Kd.R_alloc | apply Kd.R_drewN | apply Kd.R_drew)); exact HO_3.out⟩, ⟨by repeat (first | (with_reducible first | exact HK.out | apply Kept.alloc | apply Kept.drewN | apply Kept.drew) | exact HK.out)⟩, ⟨by repeat (first | (with_reducible first | exact HB.out | apply below_alloc | apply pw_below_drewN | apply below_drew1) | exact HB.out)⟩⟩
     case round =>
      clear H'
      try clear c1
      try clear p2
      try clear c5
      try clear c5b0
      try clear c9
      try clear c9b0
      try clear c10
      try clear p2
      obtain ⟨x3_2, x9_2, rfl, HA, HK2, HO_3, HK, HB⟩ := hrel
      cases gk with
      | zero => exact absurd HA.out (by simp [purflinglaw05_met.l0])
      | succ k2 =>
       have H := HA.out
       clear HA
       simp only [purflinglaw05_met.l0] at H
       by_cases c12 : 0 ≤ a1
       · rw [if_pos c12] at H
         have c12b0 : decide (0 ≤ a1) = true := decide_eq_true c12
         clear c12
         by_cases c13 : a1 < (l0.length : Int)
         · rw [if_pos c13] at H
           have c13b0 : decide (a1 < (l0.length : Int)) = true := decide_eq_true c13
           clear c13
           by_cases c14 : x9_2 < (((rd_T43 l0 a1).f1).length : Int)
           · rw [if_pos c14] at H
             have c14b0 : decide (x9_2 < (((rd_T43 l0 a1).f1).length : Int)) = true := decide_eq_true c14
             clear c14
             by_cases c15 : 0 ≤ x9_2
             · rw [if_pos c15] at H
               have c15b0 : decide (0 ≤ x9_2) = true := decide_eq_true c15
               clear c15
               by_cases c16 : (rd ((rd_T43 l0 a1).f1) x9_2) ≥ 0
               · rw [if_pos c16] at H
                 have c16b0 : decide (0 ≤ (rd ((rd_T43 l0 a1).f1) x9_2)) = true := decide_eq_true c16
                 clear c16
                 by_cases c17 : (rd ((rd_T43 l0 a1).f1) x9_2) < (l0.length : Int)
                 · rw [if_pos c17] at H
                   have c17b0 : decide ((rd ((rd_T43 l0 a1).f1) x9_2) < (l0.length : Int)) = true := decide_eq_true c17
                   clear c17
                   replace H := Option.bind_eq_some_iff.mp H
                   obtain ⟨t252, A180, H⟩ := H
                   replace H : (purflinglaw05_met.l0 k2 l0 a1 a2 t252 (wrap64 (x9_2 + 1))) = some r := H
                   have A18 := Aside0.mk A180
                   clear A180
                   have H' := Aside0.mk H
                   clear H
                   have p245 : 0 ≤ (a1 : Int) := of_decide_eq_true (by first | (with_reducible assumption) | assumption)
                   have q245 : a1 < (l0.length : Int) := of_decide_eq_true (by first | (with_reducible assumption) | assumption)
                   obtain ⟨ad245, A245_1, c245_1, A245_31, c245_31, e245, hx245_0, hx245_1, hx245_2, hx245_3, hx245_4, hx245_5, hx245_6, hx245_7, hx245_8, hx245_9, hx245_10, hx245_11, hx245_12, hx245_13, hx245_14, hx245_15, hx245_16, hx245_17, hx245_18, hx245_19, hx245_20, hx245_21, hx245_22, hx245_23, hx245_24, hx245_25, hx245_26, hx245_27, hx245_28, hx245_29, hx245_30, hx245_31, hx245_32, hx245_33, hl245_1, hi245_1, hl245_31, hi245_31⟩ := at_T43 (Kd.C_kept_now HR0.out HK.out) a1 p245 q245
                   cases e245
                   have HR245_1 := Aside0.mk hi245_1
                   have HC245_1 := Aside0.mk hl245_1
                   clear hi245_1 hl245_1
                   have HR245_31 := Aside0.mk hi245_31
                   have HC245_31 := Aside0.mk hl245_31
                   clear hi245_31 hl245_31
                   replace p245 := eq_true p245
                   replace q245 := eq_true q245
                   have p246 : 0 ≤ (a1 : Int) := of_decide_eq_true (by first | (with_reducible assumption) | assumption)
                   have q246 : a1 < (l0.length : Int) := of_decide_eq_true (by first | (with_reducible assumption) | assumption)
                   obtain ⟨ad246, A246_1, c246_1, A246_31, c246_31, e246, hx246_0, hx246_1, hx246_2, hx246_3, hx246_4, hx246_5, hx246_6, hx246_7, hx246_8, hx246_9, hx246_10, hx246_11, hx246_12, hx246_13, hx246_14, hx246_15, hx246_16, hx246_17, hx246_18, hx246_19, hx246_20, hx246_21, hx246_22, hx246_23, hx246_24, hx246_25, hx246_26, hx246_27, hx246_28, hx246_29, hx246_30, hx246_31, hx246_32, hx246_33, hl246_1, hi246_1, hl246_31, hi246_31⟩ := at_T43 (Kd.C_kept_now HR0.out HK.out) a1 p246 q246
                   obtain rfl : ad245 = ad246 := (by injection e246)
                   have HR246_1 := Aside0.mk hi246_1
                   have HC246_1 := Aside0.mk hl246_1
                   clear hi246_1 hl246_1
                   have HR246_31 := Aside0.mk hi246_31
                   have HC246_31 := Aside0.mk hl246_31
                   clear hi246_31 hl246_31
                   replace p246 := eq_true p246
                   replace q246 := eq_true q246
                   have ea_ := Option.some.inj (hx245_1.symm.trans hx246_1)
                   injection ea_ with ea_ en_ ec_
                   subst ea_
                   subst ec_
                   clear en_
                   have ea_ := Option.some.inj (hx245_31.symm.trans hx246_31)
                   injection ea_ with ea_ en_ ec_
                   subst ea_
                   subst ec_
                   clear en_
                   have p247 : 0 ≤ (x9_2 : Int) := of_decide_eq_true (by first | (with_reducible assumption) | assumption)
                   have q247 : x9_2 < (((rd_T43 l0 a1).f1).length : Int) := of_decide_eq_true (by first | (with_reducible assumption) | assumption)
                   obtain ⟨ad247, e247, hx247_0⟩ := Kd.at_int (by repeat (first | (with_reducible exact HR246_1.out) | (with_reducible refine Kd.C_alloc ?_ _) | (with_reducible refine Kd.C_drewN ?_ _) | (with_reducible refine Kd.C_drew ?_) | exact HR246_1.out)) x9_2 p247 q247
                   cases e247
                   replace p247 := eq_true p247
                   replace q247 := eq_true q247
                   have p248 : 0 ≤ (a1 : Int) := of_decide_eq_true (by first | (with_reducible assumption) | assumption)
                   have q248 : a1 < (l0.length : Int) := of_decide_eq_true (by first | (with_reducible assumption) | assumption)
                   obtain ⟨ad248, A248_1, c248_1, A248_31, c248_31, e248, hx248_0, hx248_1, hx248_2, hx248_3, hx248_4, hx248_5, hx248_6, hx248_7, hx248_8, hx248_9, hx248_10, hx248_11, hx248_12, hx248_13, hx248_14, hx248_15, hx248_16, hx248_17, hx248_18, hx248_19, hx248_20, hx248_21, hx248_22, hx248_23, hx248_24, hx248_25, hx248_26, hx248_27, hx248_28, hx248_29, hx248_30, hx248_31, hx248_32, hx248_33, hl248_1, hi248_1, hl248_31, hi248_31⟩ := at_T43 (Kd.C_kept_now HR0.out HK.out) a1 p248 q248
                   obtain rfl : ad245 = ad248 := (by injection e248)
                   have HR248_1 := Aside0.mk hi248_1
                   have HC248_1 := Aside0.mk hl248_1
                   clear hi248_1 hl248_1
                   have HR248_31 := Aside0.mk hi248_31
                   have HC248_31 := Aside0.mk hl248_31
                   clear hi248_31 hl248_31
                   replace p248 := eq_true p248
                   replace q248 := eq_true q248
                   have ea_ := Option.some.inj (hx245_1.symm.trans hx248_1)
                   injection ea_ with ea_ en_ ec_
                   subst ea_
                   subst ec_
                   clear en_
                   have ea_ := Option.some.inj (hx245_31.symm.trans hx248_31)
                   injection ea_ with ea_ en_ ec_
                   subst ea_
                   subst ec_
                   clear en_
                   have p249 : 0 ≤ (x9_2 : Int) := of_decide_eq_true (by first | (with_reducible assumption) | assumption)
                   have q249 : x9_2 < (((rd_T43 l0 a1).f1).length : Int) := of_decide_eq_true (by first | (with_reducible assumption) | assumption)
                   obtain ⟨ad249, e249, hx249_0⟩ := Kd.at_int (by repeat (first | (with_reducible exact HR248_1.out) | (with_reducible refine Kd.C_alloc ?_ _) | (with_reducible refine Kd.C_drewN ?_ _) | (with_reducible refine Kd.C_drew ?_) | exact HR248_1.out)) x9_2 p249 q249
                   cases e249
                   replace p249 := eq_true p249
                   replace q249 := eq_true q249
                   have p250 : 0 ≤ (a1 : Int) := of_decide_eq_true (by first | (with_reducible assumption) | assumption)
                   have q250 : a1 < (l0.length : Int) := of_decide_eq_true (by first | (with_reducible assumption) | assumption)
                   obtain ⟨ad250, A250_1, c250_1, A250_31, c250_31, e250, hx250_0, hx250_1, hx250_2, hx250_3, hx250_4, hx250_5, hx250_6, hx250_7, hx250_8, hx250_9, hx250_10, hx250_11, hx250_12, hx250_13, hx250_14, hx250_15, hx250_16, hx250_17, hx250_18, hx250_19, hx250_20, hx250_21, hx250_22, hx250_23, hx250_24, hx250_25, hx250_26, hx250_27, hx250_28, hx250_29, hx250_30, hx250_31, hx250_32, hx250_33, hl250_1, hi250_1, hl250_31, hi250_31⟩ := at_T43 (Kd.C_kept_now HR0.out HK.out) a1 p250 q250
                   obtain rfl : ad245 = ad250 := (by injection e250)
                   have HR250_1 := Aside0.mk hi250_1
                   have HC250_1 := Aside0.mk hl250_1
                   clear hi250_1 hl250_1
                   have HR250_31 := Aside0.mk hi250_31
                   have HC250_31 := Aside0.mk hl250_31
                   clear hi250_31 hl250_31
                   replace p250 := eq_true p250
                   replace q250 := eq_true q250
                   have ea_ := Option.some.inj (hx245_1.symm.trans hx250_1)
                   injection ea_ with ea_ en_ ec_
                   subst ea_
                   subst ec_
                   clear en_
                   have ea_ := Option.some.inj (hx245_31.symm.trans hx250_31)
                   injection ea_ with ea_ en_ ec_
                   subst ea_
                   subst ec_
                   clear en_
                   have p251 : 0 ≤ (x9_2 : Int) := of_decide_eq_true (by first | (with_reducible assumption) | assumption)
                   have q251 : x9_2 < (((rd_T43 l0 a1).f1).length : Int) := of_decide_eq_true (by first | (with_reducible assumption) | assumption)
                   obtain ⟨ad251, e251, hx251_0⟩ := Kd.at_int (by repeat (first | (with_reducible exact HR250_1.out) | (with_reducible refine Kd.C_alloc ?_ _) | (with_reducible refine Kd.C_drewN ?_ _) | (with_reducible refine Kd.C_drew ?_) | exact HR250_1.out)) x9_2 p251 q251
                   cases e251
                   replace p251 := eq_true p251
                   replace q251 := eq_true q251
                   obtain ⟨Ao19, co19, eo19⟩ := Kd.R_slice HO_3.out
                   subst eo19
                   go_wp2_with (first | ((with_reducible refine gate_callee (f := 18) rfl ?_); refine goesL_ (some 65) rfl rfl Try.func18 (by kernel_rfl) rfl #[.slice (some ad245) l0.length c0, .int .i64 (rd ((rd_T43 l0 a1).f1) x9_2), .int .i64 a2, .slice Ao19 x3_2.length co19] rfl (by (try simp only [List.map_toArray, List.map_cons, List.map_nil]); first | done | rfl | (simp only [List.length_drop, List.length_take]; rfl)) ?_; (with_reducible refine (ih k2 (by have := HJ6.out; have := HK2.out; omega) _ _ l0 (rd ((rd_T43 l0 a1).f1) x9_2) a2 (fun k_ => some k_ = (.slice Ao19 x3_2.length co19 : Value).ownBlock) (.slice Ao19 x3_2.length co19) x3_2 t252 w0 _ ?side1 ?side2 ?side3 ?side4 A18.out).mono ?_); (case side1 => repeat (first | (with_reducible first | exact HB.out | apply below_alloc | apply pw_below_drewN | apply below_drew1) | exact HB.out)); (case side2 => exact Kd.C_kept_call HR0.out (by repeat (first | (with_reducible first | exact HK.out | apply Kept.alloc | apply Kept.drewN | apply Kept.drew) | exact HK.out)) (fun k_ hs_ => (fun e_ => (HO_3.out.1 k_ e_.symm)) hs_)); (case side3 => exact HC0.out); (case side4 => exact Kd.R_tight rfl HO_3.out); rintro e w20 ⟨v253, rfl, ho0, hb, hkp⟩; refine ⟨_, rfl, ?_⟩; have n0_ := Aside0.mk (Kd.R_mono (ok' := fun k_ => (P3_ k_ ∨ w.heap.size ≤ k_)) ho0 (fun k_ hk_ => Or.elim hk_ (fun hs_ => (HO_3.out.1 k_ (hs_).symm)) (fun hn_ => (.inr (Nat.le_trans (by first | exact HK.out.1 | exact (show Kept w _ (fun k_ => P3_ k_) from by repeat (first | (with_reducible first | exact HK.out | apply Kept.alloc | apply Kept.drewN | apply Kept.drew) | exact HK.out)).1) hn_))))); have n1_ := Aside0.mk (Kept.then_ (S := (fun k_ => P3_ k_)) (by repeat (first | (with_reducible first | exact HK.out | apply Kept.alloc | apply Kept.drewN | apply Kept.drew) | exact HK.out)) hkp (fun k_ hs_ => (fun e_ => (HO_3.out.1 k_ e_.symm)) hs_)); have n2_ := Aside0.mk (hb); clear HK; clear HB; clear HO_3; have HO254 := n0_; have HK := n1_; have HB := n2_; clear n0_ n1_ n2_; (try clear hb); (try clear hkp); (try clear ho0)))
                   go_roundg k2
                   case measure => have := HJ6.out; have := HK2.out; omega
                   case rel => exact ⟨(t252), (wrap64 (x9_2 + 1)), (by first | rfl | (simp; done) | (simp [*]; done)), H', ⟨by have := HJ6.out; have := HK2.out; omega⟩, ⟨by (with_reducible repeat (first | apply Kd.R_alloc | apply Kd.R_drewN | apply Kd.R_drew)); exact HO254.out⟩, ⟨by repeat (first | (with_reducible first | exact HK.out | apply Kept.alloc | apply Kept.drewN | apply Kept.drew) | exact HK.out)⟩, ⟨by repeat (first | (with_reducible first | exact HB.out | apply below_alloc | apply pw_below_drewN | apply below_drew1) | exact HB.out)⟩⟩
                 · rw [if_neg c17] at H
                   have c17b0 : decide ((rd ((rd_T43 l0 a1).f1) x9_2) < (l0.length : Int)) = false := decide_eq_false c17
                   clear c17
                   have H' := Aside0.mk H
                   clear H
                   have p245 : 0 ≤ (a1 : Int) := of_decide_eq_true (by first | (with_reducible assumption) | assumption)
                   have q245 : a1 < (l0.length : Int) := of_decide_eq_true (by first | (with_reducible assumption) | assumption)
                   obtain ⟨ad245, A245_1, c245_1, A245_31, c245_31, e245, hx245_0, hx245_1, hx245_2, hx245_3, hx245_4, hx245_5, hx245_6, hx245_7, hx245_8, hx245_9, hx245_10, hx245_11, hx245_12, hx245_13, hx245_14, hx245_15, hx245_16, hx245_17, hx245_18, hx245_19, hx245_20, hx245_21, hx245_22, hx245_23, hx245_24, hx245_25, hx245_26, hx245_27, hx245_28, hx245_29, hx245_30, hx245_31, hx245_32, hx245_33, hl245_1, hi245_1, hl245_31, hi245_31⟩ := at_T43 (Kd.C_kept_now HR0.out HK.out) a1 p245 q245
                   cases e245
                   have HR245_1 := Aside0.mk hi245_1
                   have HC245_1 := Aside0.mk hl245_1
                   clear hi245_1 hl245_1
                   have HR245_31 := Aside0.mk hi245_31
                   have HC245_31 := Aside0.mk hl245_31
                   clear hi245_31 hl245_31
                   replace p245 := eq_true p245
                   replace q245 := eq_true q245
                   have p246 : 0 ≤ (a1 : Int) := of_decide_eq_true (by first | (with_reducible assumption) | assumption)
                   have q246 : a1 < (l0.length : Int) := of_decide_eq_true (by first | (with_reducible assumption) | assumption)
                   obtain ⟨ad246, A246_1, c246_1, A246_31, c246_31, e246, hx246_0, hx246_1, hx246_2, hx246_3, hx246_4, hx246_5, hx246_6, hx246_7, hx246_8, hx246_9, hx246_10, hx246_11, hx246_12, hx246_13, hx246_14, hx246_15, hx246_16, hx246_17, hx246_18, hx246_19, hx246_20, hx246_21, hx246_22, hx246_23, hx246_24, hx246_25, hx246_26, hx246_27, hx246_28, hx246_29, hx246_30, hx246_31, hx246_32, hx246_33, hl246_1, hi246_1, hl246_31, hi246_31⟩ := at_T43 (Kd.C_kept_now HR0.out HK.out) a1 p246 q246
                   obtain rfl : ad245 = ad246 := (by injection e246)
                   have HR246_1 := Aside0.mk hi246_1
                   have HC246_1 := Aside0.mk hl246_1
                   clear hi246_1 hl246_1
                   have HR246_31 := Aside0.mk hi246_31
                   have HC246_31 := Aside0.mk hl246_31
                   clear hi246_31 hl246_31
                   replace p246 := eq_true p246
                   replace q246 := eq_true q246
                   have ea_ := Option.some.inj (hx245_1.symm.trans hx246_1)
                   injection ea_ with ea_ en_ ec_
                   subst ea_
                   subst ec_
                   clear en_
                   have ea_ := Option.some.inj (hx245_31.symm.trans hx246_31)
                   injection ea_ with ea_ en_ ec_
                   subst ea_
                   subst ec_
                   clear en_
                   have p247 : 0 ≤ (x9_2 : Int) := of_decide_eq_true (by first | (with_reducible assumption) | assumption)
                   have q247 : x9_2 < (((rd_T43 l0 a1).f1).length : Int) := of_decide_eq_true (by first | (with_reducible assumption) | assumption)
                   obtain ⟨ad247, e247, hx247_0⟩ := Kd.at_int (by repeat (first | (with_reducible exact HR246_1.out) | (with_reducible refine Kd.C_alloc ?_ _) | (with_reducible refine Kd.C_drewN ?_ _) | (with_reducible refine Kd.C_drew ?_) | exact HR246_1.out)) x9_2 p247 q247
                   cases e247
                   replace p247 := eq_true p247
                   replace q247 := eq_true q247
                   have p248 : 0 ≤ (a1 : Int) := of_decide_eq_true (by first | (with_reducible assumption) | assumption)
                   have q248 : a1 < (l0.length : Int) := of_decide_eq_true (by first | (with_reducible assumption) | assumption)
                   obtain ⟨ad248, A248_1, c248_1, A248_31, c248_31, e248, hx248_0, hx248_1, hx248_2, hx248_3, hx248_4, hx248_5, hx248_6, hx248_7, hx248_8, hx248_9, hx248_10, hx248_11, hx248_12, hx248_13, hx248_14, hx248_15, hx248_16, hx248_17, hx248_18, hx248_19, hx248_20, hx248_21, hx248_22, hx248_23, hx248_24, hx248_25, hx248_26, hx248_27, hx248_28, hx248_29, hx248_30, hx248_31, hx248_32, hx248_33, hl248_1, hi248_1, hl248_31, hi248_31⟩ := at_T43 (Kd.C_kept_now HR0.out HK.out) a1 p248 q248
                   obtain rfl : ad245 = ad248 := (by injection e248)
                   have HR248_1 := Aside0.mk hi248_1
                   have HC248_1 := Aside0.mk hl248_1
                   clear hi248_1 hl248_1
                   have HR248_31 := Aside0.mk hi248_31
                   have HC248_31 := Aside0.mk hl248_31
                   clear hi248_31 hl248_31
                   replace p248 := eq_true p248
                   replace q248 := eq_true q248
                   have ea_ := Option.some.inj (hx245_1.symm.trans hx248_1)
                   injection ea_ with ea_ en_ ec_
                   subst ea_
                   subst ec_
                   clear en_
                   have ea_ := Option.some.inj (hx245_31.symm.trans hx248_31)
                   injection ea_ with ea_ en_ ec_
                   subst ea_
                   subst ec_
                   clear en_
                   have p249 : 0 ≤ (x9_2 : Int) := of_decide_eq_true (by first | (with_reducible assumption) | assumption)
                   have q249 : x9_2 < (((rd_T43 l0 a1).f1).length : Int) := of_decide_eq_true (by first | (with_reducible assumption) | assumption)
                   obtain ⟨ad249, e249, hx249_0⟩ := Kd.at_int (by repeat (first | (with_reducible exact HR248_1.out) | (with_reducible refine Kd.C_alloc ?_ _) | (with_reducible refine Kd.C_drewN ?_ _) | (with_reducible refine Kd.C_drew ?_) | exact HR248_1.out)) x9_2 p249 q249
                   cases e249
                   replace p249 := eq_true p249
                   replace q249 := eq_true q249
                   go_wp2
                   go_roundg k2
                   case measure => have := HJ6.out; have := HK2.out; omega
                   case rel => exact ⟨(x3_2), (wrap64 (x9_2 + 1)), (by first | rfl | (simp; done) | (simp [*]; done)), H', ⟨by have := HJ6.out; have := HK2.out; omega⟩, ⟨by (with_reducible repeat (first | apply Kd.R_alloc | apply Kd.R_drewN | apply Kd.R_drew)); exact HO_3.out⟩, ⟨by repeat (first | (with_reducible first | exact HK.out | apply Kept.alloc | apply Kept.drewN | apply Kept.drew) | exact HK.out)⟩, ⟨by repeat (first | (with_reducible first | exact HB.out | apply below_alloc | apply pw_below_drewN | apply below_drew1) | exact HB.out)⟩⟩
               · rw [if_neg c16] at H
                 have c16b0 : decide (0 ≤ (rd ((rd_T43 l0 a1).f1) x9_2)) = false := decide_eq_false c16
                 clear c16
                 have H' := Aside0.mk H
                 clear H
                 have p245 : 0 ≤ (a1 : Int) := of_decide_eq_true (by first | (with_reducible assumption) | assumption)
                 have q245 : a1 < (l0.length : Int) := of_decide_eq_true (by first | (with_reducible assumption) | assumption)
                 obtain ⟨ad245, A245_1, c245_1, A245_31, c245_31, e245, hx245_0, hx245_1, hx245_2, hx245_3, hx245_4, hx245_5, hx245_6, hx245_7, hx245_8, hx245_9, hx245_10, hx245_11, hx245_12, hx245_13, hx245_14, hx245_15, hx245_16, hx245_17, hx245_18, hx245_19, hx245_20, hx245_21, hx245_22, hx245_23, hx245_24, hx245_25, hx245_26, hx245_27, hx245_28, hx245_29, hx245_30, hx245_31, hx245_32, hx245_33, hl245_1, hi245_1, hl245_31, hi245_31⟩ := at_T43 (Kd.C_kept_now HR0.out HK.out) a1 p245 q245
                 cases e245
                 have HR245_1 := Aside0.mk hi245_1
                 have HC245_1 := Aside0.mk hl245_1
                 clear hi245_1 hl245_1
                 have HR245_31 := Aside0.mk hi245_31
                 have HC245_31 := Aside0.mk hl245_31
                 clear hi245_31 hl245_31
                 replace p245 := eq_true p245
                 replace q245 := eq_true q245
                 have p246 : 0 ≤ (a1 : Int) := of_decide_eq_true (by first | (with_reducible assumption) | assumption)
                 have q246 : a1 < (l0.length : Int) := of_decide_eq_true (by first | (with_reducible assumption) | assumption)
                 obtain ⟨ad246, A246_1, c246_1, A246_31, c246_31, e246, hx246_0, hx246_1, hx246_2, hx246_3, hx246_4, hx246_5, hx246_6, hx246_7, hx246_8, hx246_9, hx246_10, hx246_11, hx246_12, hx246_13, hx246_14, hx246_15, hx246_16, hx246_17, hx246_18, hx246_19, hx246_20, hx246_21, hx246_22, hx246_23, hx246_24, hx246_25, hx246_26, hx246_27, hx246_28, hx246_29, hx246_30, hx246_31, hx246_32, hx246_33, hl246_1, hi246_1, hl246_31, hi246_31⟩ := at_T43 (Kd.C_kept_now HR0.out HK.out) a1 p246 q246
                 obtain rfl : ad245 = ad246 := (by injection e246)
                 have HR246_1 := Aside0.mk hi246_1
                 have HC246_1 := Aside0.mk hl246_1
                 clear hi246_1 hl246_1
                 have HR246_31 := Aside0.mk hi246_31
                 have HC246_31 := Aside0.mk hl246_31
                 clear hi246_31 hl246_31
                 replace p246 := eq_true p246
                 replace q246 := eq_true q246
                 have ea_ := Option.some.inj (hx245_1.symm.trans hx246_1)
                 injection ea_ with ea_ en_ ec_
                 subst ea_
                 subst ec_
                 clear en_
                 have ea_ := Option.some.inj (hx245_31.symm.trans hx246_31)
                 injection ea_ with ea_ en_ ec_
                 subst ea_
                 subst ec_
                 clear en_
                 have p247 : 0 ≤ (x9_2 : Int) := of_decide_eq_true (by first | (with_reducible assumption) | assumption)
                 have q247 : x9_2 < (((rd_T43 l0 a1).f1).length : Int) := of_decide_eq_true (by first | (with_reducible assumption) | assumption)
                 obtain ⟨ad247, e247, hx247_0⟩ := Kd.at_int (by repeat (first | (with_reducible exact HR246_1.out) | (with_reducible refine Kd.C_alloc ?_ _) | (with_reducible refine Kd.C_drewN ?_ _) | (with_reducible refine Kd.C_drew ?_) | exact HR246_1.out)) x9_2 p247 q247
                 cases e247
                 replace p247 := eq_true p247
                 replace q247 := eq_true q247
                 go_wp2
                 go_roundg k2
                 case measure => have := HJ6.out; have := HK2.out; omega
                 case rel => exact ⟨(x3_2), (wrap64 (x9_2 + 1)), (by first | rfl | (simp; done) | (simp [*]; done)), H', ⟨by have := HJ6.out; have := HK2.out; omega⟩, ⟨by (with_reducible repeat (first | apply Kd.R_alloc | apply Kd.R_drewN | apply Kd.R_drew)); exact HO_3.out⟩, ⟨by repeat (first | (with_reducible first | exact HK.out | apply Kept.alloc | apply Kept.drewN | apply Kept.drew) | exact HK.out)⟩, ⟨by repeat (first | (with_reducible first | exact HB.out | apply below_alloc | apply pw_below_drewN | apply below_drew1) | exact HB.out)⟩⟩
             · rw [if_neg c15] at H
               exact absurd H (by simp)
           · rw [if_neg c14] at H
             have c14b0 : decide (x9_2 < (((rd_T43 l0 a1).f1).length : Int)) = false := decide_eq_false c14
             clear c14
             obtain rfl := Option.some.inj H
             have p245 : 0 ≤ (a1 : Int) := of_decide_eq_true (by first | (with_reducible assumption) | assumption)
             have q245 : a1 < (l0.length : Int) := of_decide_eq_true (by first | (with_reducible assumption) | assumption)
             obtain ⟨ad245, A245_1, c245_1, A245_31, c245_31, e245, hx245_0, hx245_1, hx245_2, hx245_3, hx245_4, hx245_5, hx245_6, hx245_7, hx245_8, hx245_9, hx245_10, hx245_11, hx245_12, hx245_13, hx245_14, hx245_15, hx245_16, hx245_17, hx245_18, hx245_19, hx245_20, hx245_21, hx245_22, hx245_23, hx245_24, hx245_25, hx245_26, hx245_27, hx245_28, hx245_29, hx245_30, hx245_31, hx245_32, hx245_33, hl245_1, hi245_1, hl245_31, hi245_31⟩ := at_T43 (Kd.C_kept_now HR0.out HK.out) a1 p245 q245
             cases e245
             have HR245_1 := Aside0.mk hi245_1
             have HC245_1 := Aside0.mk hl245_1
             clear hi245_1 hl245_1
             have HR245_31 := Aside0.mk hi245_31
             have HC245_31 := Aside0.mk hl245_31
             clear hi245_31 hl245_31
             replace p245 := eq_true p245
             replace q245 := eq_true q245
             go_wp2
             go_ret
             exact ⟨_, by first | rfl | (simp [errW_none, errW_some] <;> rfl) | (simp [*, errW_none, errW_some] <;> rfl), by (with_reducible repeat (first | apply Kd.R_alloc | apply Kd.R_drewN | apply Kd.R_drew)); exact HO_3.out, by repeat (first | (with_reducible first | exact HB.out | apply below_alloc | apply pw_below_drewN | apply below_drew1) | exact HB.out), by repeat (first | (with_reducible first | exact HK.out | apply Kept.alloc | apply Kept.drewN | apply Kept.drew) | exact HK.out)⟩
         · rw [if_neg c13] at H
           exact absurd H (by simp)
       · rw [if_neg c12] at H
         exact absurd H (by simp)

end Go.Proofs.Ytjhpkikgajgdmaa.K
