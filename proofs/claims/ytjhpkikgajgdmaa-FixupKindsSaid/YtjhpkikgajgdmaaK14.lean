-- PRINTED by print.py (a twelfth state) out of the translation. Not trusted: Lean checks it.
import Derived.Test.YtjhpkikgajgdmaaFxM
import Derived.Test.YtjhpkikgajgdmaaFxS
import Derived.Test.YtjhpkikgajgdmaaK0
import Derived.Test.YtjhpkikgajgdmaaK3
import Derived.Test.YtjhpkikgajgdmaaK4
namespace Go.Proofs.Ytjhpkikgajgdmaa.K
open Go.RowKit Go.Proofs.YtjhpkikgajgdmaaW.PrintWords Go.Proofs.YtjhpkikgajgdmaaW.PrintLast Go.Proofs.YtjhpkikgajgdmaaW.PrintMore
attribute [local go_sem] max2_int min2_int max_two min_two max_three min_three max_four min_four   -- for this text's walks alone
set_option linter.unusedVariables false
set_option linter.unusedSimpArgs false

-- by hand: function 10 (purflinglaw05_shown)

-- by hand: function 11 (fixup_May)

-- by hand: function 13 (fixup_Around)

/-! ### purflinglaw05_FixupKinds: function 3 -/
def purflinglaw05_FixupKinds.f (k : Nat) (a0 : Int) (a1 : Int) : Option (Bool) := (purflinglaw05_shown.f).bind fun t255 => (if t255 = true then ((fixup_May.f a0 a1).bind fun t256 => ((purflingref05_May.f k a0 a1).bind fun t257 => (if (t256 == t257) = true then ((fixup_Around.f a0).bind fun t258 => ((purflingref05_Around.f k a0).bind fun t259 => (some (t258 == t259)))) else (some false)))) else (some false))
theorem purflinglaw05_FixupKinds.mono : ∀ a0 a1 k, LeO (purflinglaw05_FixupKinds.f k a0 a1) (purflinglaw05_FixupKinds.f (k + 1) a0 a1) := by
 intro a0 a1 k
 unfold purflinglaw05_FixupKinds.f
 repeat' first
  | (with_reducible exact purflingref05_Around.mono _ _)
  | (with_reducible exact purflingref05_May.mono _ _ _)
  | (with_reducible exact LeO.refl _)
  | (with_reducible exact LeO.none _)
  | (with_reducible refine LeO.ite ?_ ?_)
  | (with_reducible refine LeO.bind ?_ (fun _ => ?_))
  | exact purflingref05_Around.mono _ _
  | exact purflingref05_May.mono _ _ _
  | exact LeO.none _
  | refine LeO.ite ?_ ?_
  | refine LeO.bind ?_ (fun _ => ?_)
set_option maxHeartbeats 8000000 in
set_option maxRecDepth 100000 in
theorem purflinglaw05_FixupKinds.calls (k : Nat) (a0 : Int) (a1 : Int) (r : Bool) (w : World) (h : purflinglaw05_FixupKinds.f k a0 a1 = some r) :
 Calls Try.prog 3 #[.int .i64 a0, .int .i64 a1] w fun e w' => e = .returned (.bool r) ∧ Below w.heap.size w w' := by
 have HB := Aside0.mk (Below.refl w.heap.size w)
 have H : ((purflinglaw05_shown.f).bind fun t255 => (if t255 = true then ((fixup_May.f a0 a1).bind fun t256 => ((purflingref05_May.f k a0 a1).bind fun t257 => (if (t256 == t257) = true then ((fixup_Around.f a0).bind fun t258 => ((purflingref05_Around.f k a0).bind fun t259 => (some (t258 == t259)))) else (some false)))) else (some false))) = some r := h
 clear h
 replace H := Option.bind_eq_some_iff.mp H
 obtain ⟨t255, A30, H⟩ := H
 replace H : (if t255 = true then ((fixup_May.f a0 a1).bind fun t256 => ((purflingref05_May.f k a0 a1).bind fun t257 => (if (t256 == t257) = true then ((fixup_Around.f a0).bind fun t258 => ((purflingref05_Around.f k a0).bind fun t259 => (some (t258 == t259)))) else (some false)))) else (some false)) = some r := H
 have A3 := Aside0.mk A30
 clear A30
 by_cases c4 : t255 = true
 · subst c4
   have H1 : ((fixup_May.f a0 a1).bind fun t256 => ((purflingref05_May.f k a0 a1).bind fun t257 => (if (t256 == t257) = true then ((fixup_Around.f a0).bind fun t258 => ((purflingref05_Around.f k a0).bind fun t259 => (some (t258 == t259)))) else (some false)))) = some r := by rw [if_pos rfl] at H; exact H
   clear H
   have H := H1
   clear H1
   replace H := Option.bind_eq_some_iff.mp H
   obtain ⟨t256, A50, H⟩ := H
   replace H : ((purflingref05_May.f k a0 a1).bind fun t257 => (if (t256 == t257) = true then ((fixup_Around.f a0).bind fun t258 => ((purflingref05_Around.f k a0).bind fun t259 => (some (t258 == t259)))) else (some false))) = some r := H
   have A5 := Aside0.mk A50
   clear A50
   replace H := Option.bind_eq_some_iff.mp H
   obtain ⟨t257, A60, H⟩ := H
   replace H : (if (t256 == t257) = true then ((fixup_Around.f a0).bind fun t258 => ((purflingref05_Around.f k a0).bind fun t259 => (some (t258 == t259)))) else (some false)) = some r := H
   have A6 := Aside0.mk A60
   clear A60
   by_cases c7 : (t256 == t257) = true
   · rw [if_pos c7] at H
     have c7b0 : (t256 == t257) = true := c7
     (try (have c7b1 : decide (t256 = t257) = true := by simpa using c7))
     (try (have c7b2 : (t256 == t257) = true := by simpa using c7))
     clear c7
     replace H := Option.bind_eq_some_iff.mp H
     obtain ⟨t258, A80, H⟩ := H
     replace H : ((purflingref05_Around.f k a0).bind fun t259 => (some (t258 == t259))) = some r := H
     have A8 := Aside0.mk A80
     clear A80
     replace H := Option.bind_eq_some_iff.mp H
     obtain ⟨t259, A90, H⟩ := H
     replace H : (some (t258 == t259)) = some r := H
     have A9 := Aside0.mk A90
     clear A90
     obtain rfl := Option.some.inj H
     go_enter Try.func3, Try.ntmps3
     go_wp2_with (first | ((with_reducible refine gate_callee (f := 10) rfl ?_); refine goesL_ (some 6) rfl rfl Try.func10 (by kernel_rfl) rfl #[] rfl (by (try simp only [List.map_toArray, List.map_cons, List.map_nil]); first | done | rfl | (simp only [List.length_drop, List.length_take]; rfl)) ?_; (with_reducible refine (purflinglaw05_shown.calls  true _ A3.out).mono ?_); rintro e w10 ⟨rfl, hb⟩; refine ⟨_, rfl, ?_⟩; have n0_ := Aside0.mk (below_step (by repeat (first | (with_reducible first | exact HB.out | apply below_alloc | apply pw_below_drewN | apply below_drew1) | exact HB.out)) hb); clear HB; have HB := n0_; clear n0_; (try clear hb); (try clear hb2); (try clear hk); (try clear hi)) | (go_at_call 11; (with_reducible refine (fixup_May.calls a0 a1 t256 _ A5.out).mono ?_); rintro e w11 ⟨rfl, hb⟩; have n0_ := Aside0.mk (below_step (by repeat (first | (with_reducible first | exact HB.out | apply below_alloc | apply pw_below_drewN | apply below_drew1) | exact HB.out)) hb); clear HB; have HB := n0_; clear n0_; (try clear hb); (try clear hb2); (try clear hk); (try clear hi)) | (go_at_call 12; (with_reducible refine (purflingref05_May.calls k a0 a1 t257 _ A6.out).mono ?_); rintro e w' ⟨rfl, ⟨nd, rfl⟩⟩) | (go_at_call 13; (with_reducible refine (fixup_Around.calls a0 t258 _ A8.out).mono ?_); rintro e w12 ⟨rfl, hb⟩; have n0_ := Aside0.mk (below_step (by repeat (first | (with_reducible first | exact HB.out | apply below_alloc | apply pw_below_drewN | apply below_drew1) | exact HB.out)) hb); clear HB; have HB := n0_; clear n0_; (try clear hb); (try clear hb2); (try clear hk); (try clear hi)) | (go_at_call 14; (with_reducible refine (purflingref05_Around.calls k a0 t259 _ A9.out).mono ?_); rintro e w' ⟨rfl, ⟨nd, rfl⟩⟩))
     go_ret
     exact ⟨by first | rfl | (simp [errW_none, errW_some] <;> rfl) | (simp [*, errW_none, errW_some] <;> rfl), by repeat (first | (with_reducible first | exact HB.out | apply below_alloc | apply pw_below_drewN | apply below_drew1) | exact HB.out)⟩
   · rw [if_neg c7] at H
     have c7b0 : (t256 == t257) = false := by simpa using c7
     (try (have c7b1 : decide (t256 = t257) = false := by simpa using c7))
     (try (have c7b2 : (t256 == t257) = false := by simpa using c7))
     (try (have c7b3 : ¬ (t256 = t257) := by simpa using c7))
     clear c7
     obtain rfl := Option.some.inj H
     go_enter Try.func3, Try.ntmps3
     go_wp2_with (first | ((with_reducible refine gate_callee (f := 10) rfl ?_); refine goesL_ (some 6) rfl rfl Try.func10 (by kernel_rfl) rfl #[] rfl (by (try simp only [List.map_toArray, List.map_cons, List.map_nil]); first | done | rfl | (simp only [List.length_drop, List.length_take]; rfl)) ?_; (with_reducible refine (purflinglaw05_shown.calls  true _ A3.out).mono ?_); rintro e w13 ⟨rfl, hb⟩; refine ⟨_, rfl, ?_⟩; have n0_ := Aside0.mk (below_step (by repeat (first | (with_reducible first | exact HB.out | apply below_alloc | apply pw_below_drewN | apply below_drew1) | exact HB.out)) hb); clear HB; have HB := n0_; clear n0_; (try clear hb); (try clear hb2); (try clear hk); (try clear hi)) | (go_at_call 11; (with_reducible refine (fixup_May.calls a0 a1 t256 _ A5.out).mono ?_); rintro e w14 ⟨rfl, hb⟩; have n0_ := Aside0.mk (below_step (by repeat (first | (with_reducible first | exact HB.out | apply below_alloc | apply pw_below_drewN | apply below_drew1) | exact HB.out)) hb); clear HB; have HB := n0_; clear n0_; (try clear hb); (try clear hb2); (try clear hk); (try clear hi)) | (go_at_call 12; (with_reducible refine (purflingref05_May.calls k a0 a1 t257 _ A6.out).mono ?_); rintro e w' ⟨rfl, ⟨nd, rfl⟩⟩))
     go_ret
     exact ⟨by first | rfl | (simp [errW_none, errW_some] <;> rfl) | (simp [*, errW_none, errW_some] <;> rfl), by repeat (first | (with_reducible first | exact HB.out | apply below_alloc | apply pw_below_drewN | apply below_drew1) | exact HB.out)⟩
 · replace c4 := Bool.eq_false_iff.mpr c4
   subst c4
   have H1 : (some false) = some r := by rw [if_neg (show ¬ (false = true) by decide)] at H; exact H
   clear H
   have H := H1
   clear H1
   obtain rfl := Option.some.inj H
   go_enter Try.func3, Try.ntmps3
   go_wp2_with (first | ((with_reducible refine gate_callee (f := 10) rfl ?_); refine goesL_ (some 6) rfl rfl Try.func10 (by kernel_rfl) rfl #[] rfl (by (try simp only [List.map_toArray, List.map_cons, List.map_nil]); first | done | rfl | (simp only [List.length_drop, List.length_take]; rfl)) ?_; (with_reducible refine (purflinglaw05_shown.calls  false _ A3.out).mono ?_); rintro e w15 ⟨rfl, hb⟩; refine ⟨_, rfl, ?_⟩; have n0_ := Aside0.mk (below_step (by repeat (first | (with_reducible first | exact HB.out | apply below_alloc | apply pw_below_drewN | apply below_drew1) | exact HB.out)) hb); clear HB; have HB := n0_; clear n0_; (try clear hb); (try clear hb2); (try clear hk); (try clear hi)))
   go_ret
   exact ⟨by first | rfl | (simp [errW_none, errW_some] <;> rfl) | (simp [*, errW_none, errW_some] <;> rfl), by repeat (first | (with_reducible first | exact HB.out | apply below_alloc | apply pw_below_drewN | apply below_drew1) | exact HB.out)⟩

-- by hand: function 15 (fixup_Fix)

end Go.Proofs.Ytjhpkikgajgdmaa.K
