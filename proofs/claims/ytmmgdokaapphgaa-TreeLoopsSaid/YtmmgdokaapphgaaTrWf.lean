/- Layer 4: TreeLoops. -/
import Derived.Test.YtmmgdokaapphgaaTrWe
namespace Go.Proofs.Ytmmgdokaapphgaa.K
open Go.RowKit Go.Proofs.YtmmgdokaapphgaaW.PrintWords Go.Proofs.YtmmgdokaapphgaaW.PrintLast Go.Proofs.YtmmgdokaapphgaaW.PrintMore
set_option linter.unusedVariables false
set_option linter.unusedSimpArgs false
attribute [local go_sem] Oper.semAt_some

section
variable {F : Fence} {n : Nat} {P : Program} {ops : Array Oper} {Q : Exit → Act → World → Prop} {md : Region.Mode} {S : World → Prop} {k0 : Nat}
/-- two may come up -/
theorem twoU {i j : Nat} {oi oj : Oper} {fuel : Nat} {listed : Array Bool} {a : Act} {w : World} (hi : ops[i]? = some oi) (hj : ops[j]? = some oj) (hr : Region.ready md ops listed = [i, j])
    (h1 : ∀ K' : Act → World → Prop, (∀ a w, ((listed.setIfInBounds i true).getD k0 true = false → S w) ∧ wpAnyInU F n P md ops Q S k0 fuel (listed.setIfInBounds i true) a w → K' a w) → if Region.wanted oi (yielded ops a.tmps) = true then Oper.wpIn F n P oi a w K' Q else (∀ f, oi.about P w a.eval = some f → F.fn f) ∧ K' (a.put oi.dst undef) w)
    (h2 : ∀ K' : Act → World → Prop, (∀ a w, ((listed.setIfInBounds j true).getD k0 true = false → S w) ∧ wpAnyInU F n P md ops Q S k0 fuel (listed.setIfInBounds j true) a w → K' a w) → if Region.wanted oj (yielded ops a.tmps) = true then Oper.wpIn F n P oj a w K' Q else (∀ f, oj.about P w a.eval = some f → F.fn f) ∧ K' (a.put oj.dst undef) w) :
    wpAnyInU F n P md ops Q S k0 (fuel + 1) listed a w :=
  ⟨fun h0 => (by rw [h0] at hr; cases hr), fun k hk => by
    rw [hr] at hk
    rcases List.mem_cons.1 hk with rfl | hk
    · exact wpOpIn_step hi h1
    · obtain rfl := List.mem_singleton.1 hk
      exact wpOpIn_step hj h2⟩
end
theorem rowsIn_of {P : Program} {row : String} {args : Array Value} {w : World} {n : Nat} {R : Value → World → Prop} (h : Rows P row args w R) : RowsIn Fence.wide n P row args w R :=
  fun c cs _ => let ⟨v, w', r, s⟩ := h c cs; ⟨v, w', r, stepsIn_wide.2 s⟩
theorem opIn_of_wp {P : Program} {o : Oper} {a : Act} {w : World} {K : Act → World → Prop} {Q : Exit → Act → World → Prop} (h : Oper.wp P o a w K Q) : Oper.wpIn Fence.wide 0 P o a w K Q := by
  refine ⟨fun _ _ => trivial, ?_⟩
  unfold Oper.wp at h
  show Oper.uponIn Fence.wide 0 P o a K Q ((execOp a.eval o).run P w)
  generalize (execOp a.eval o).run P w = r at h
  match r, h with
  | .ok (.value v) w', h => exact h
  | .ok .skip w', h => exact h
  | .ok (.defer d) w', h => exact h
  | .ok (.enter f args) w', h => exact ⟨fun h => by simp [Fence.wide] at h, callsIn_wide.2 h⟩
  | .ok (.row row args) w', h => exact ⟨fun h => by simp [Fence.wide] at h, rowsIn_of h⟩
  | .halt (.panic v) w', h => exact h
theorem step_in {P : Program} {ops : Array Oper} {o : Oper} {a : Act} {w : World} {K : Act → World → Prop} {Q : Exit → Act → World → Prop} (hw : Region.wanted o (yielded ops a.tmps) = true)
    (h : if Region.wanted o (yielded ops a.tmps) = true then Oper.wp P o a w K Q else K (a.put o.dst undef) w) : if Region.wanted o (yielded ops a.tmps) = true then Oper.wpIn Fence.wide 0 P o a w K Q else (∀ f, o.about P w a.eval = some f → Fence.wide.fn f) ∧ K (a.put o.dst undef) w := by
  rw [if_pos hw] at h ⊢
  exact opIn_of_wp h
theorem make_two : ∃ z2 : Array Value, z2.size = 2 ∧ ∀ W : World, (Instr.makeSlice 29 (.int .i64 0) (.int .i64 2)).run Try.prog W = .ok (.slice (some ⟨W.heap.size, 0, none⟩) 0 2) (W.alloc (.cells z2 3)) := by
  obtain ⟨i0, hi, hz⟩ := Option.map_eq_some_iff.1 info3
  simp only [Prod.mk.injEq] at hz
  obtain ⟨hz0, hz1, hz2⟩ := hz
  refine ⟨madeCells (Value.int .i64 0).cells ((2 : Int).toNat * i0.size), by rw [size_madeCells, hz1]; rfl, fun W => ?_⟩
  have h := run_makeSlice (P := Try.prog) (w := W) 29 3 i0 (.int .i64 0) Try.underlying29 hi hz0 .i64 .i64 0 2 (by decide) (by decide) (by rw [hz1]; decide) (by rw [hz2]; decide) (by decide)
  exact h
theorem r_made2 {z2 : Array Value} (hz : z2.size = 2) (W : World) : Kd.R (Kd.int .i64) 3 (W.alloc (.cells z2 3)) W.heap.size (fun _ => True) (.slice (some ⟨W.heap.size, 0, none⟩) 0 2) [] :=
  ⟨fun _ _ => trivial, [], World.ownsRow_made W z2 2 (Nat.le_refl _) (by decide) (by rw [hz]; rfl), by simp, fun j p h => by simp at h⟩
theorem put_to {K : Act → World → Prop} {a : Act} {o : Oper} {d : Tmp} (hd : o.dst = some d) {v : Value} {w : World} (h : K { tmps := a.tmps.setIfInBounds d v, defers := a.defers } w) : K (a.put o.dst v) w := by
  unfold Act.put; rw [hd]; exact h
theorem loop_g (n f t : Nat) : (fun q => if q = f then chainK n f ++ [((t : Nat) : Int)] else chainK n q) = loopK n f t := by
  funext q
  unfold loopK
  by_cases e : q = f
  · rw [if_pos e, if_pos e, e]
  · rw [if_neg e, if_neg e]
def purflinglaw04_TreeLoops.f (a0 a1 a2 : Int) : Option Bool := some true
theorem pure_TreeLoops {P Q R : Prop} : ∀ a0 a1 a2 : Int, P → Q → R → purflinglaw04_TreeLoops.f a0 a1 a2 = some true := fun _ _ _ _ _ _ => rfl
set_option maxRecDepth 100000 in
set_option maxHeartbeats 4000000 in
theorem purflinglaw04_TreeLoops.calls (a0 a1 a2 : Int) (r : Bool) (w : World) (h : purflinglaw04_TreeLoops.f a0 a1 a2 = some r) :
    Calls Try.prog 5 #[.int .i64 a0, .int .i64 a1, .int .i64 a2] w fun e w' => e = .returned (.bool r) ∧ Below w.heap.size w w' := by
  obtain rfl : true = r := Option.some.inj h
  clear h
  have HSH := Lib.hid (fun W => purflinglaw04_shown.calls true W rfl)
  have hgo : (2 ≤ a0 ∧ a0 ≤ 60 ∧ 0 ≤ a1 ∧ a1 < a0 ∧ 0 ≤ a2 ∧ a2 < a0) ∨ ¬ (2 ≤ a0 ∧ a0 ≤ 60 ∧ 0 ≤ a1 ∧ a1 < a0 ∧ 0 ≤ a2 ∧ a2 < a0) := by omega
  rcases hgo with hgo | hno
  rotate_left
  focus
    have hcs : a0 < 2 ∨ (¬ a0 < 2 ∧ 60 < a0) ∨ (¬ a0 < 2 ∧ ¬ 60 < a0 ∧ a1 < 0) ∨ (¬ a0 < 2 ∧ ¬ 60 < a0 ∧ ¬ a1 < 0 ∧ a0 ≤ a1) ∨ (¬ a0 < 2 ∧ ¬ 60 < a0 ∧ ¬ a1 < 0 ∧ ¬ a0 ≤ a1 ∧ a2 < 0) ∨ (¬ a0 < 2 ∧ ¬ 60 < a0 ∧ ¬ a1 < 0 ∧ ¬ a0 ≤ a1 ∧ ¬ a2 < 0 ∧ a0 ≤ a2) := by omega
    clear hno
    rcases hcs with q0 | ⟨q0, q1⟩ | ⟨q0, q1, q2⟩ | ⟨q0, q1, q2, q3⟩ | ⟨q0, q1, q2, q3, q4⟩ | ⟨q0, q1, q2, q3, q4, q5⟩
    all_goals (first | have d0 : decide (a0 < 2) = true := decide_eq_true q0 | have d0 : decide (a0 < 2) = false := decide_eq_false q0)
    all_goals (try first | have d1 : decide (60 < a0) = true := decide_eq_true q1 | have d1 : decide (60 < a0) = false := decide_eq_false q1)
    all_goals (try first | have d2 : decide (a1 < 0) = true := decide_eq_true q2 | have d2 : decide (a1 < 0) = false := decide_eq_false q2)
    all_goals (try first | have d3 : decide (a0 ≤ a1) = true := decide_eq_true q3 | have d3 : decide (a0 ≤ a1) = false := decide_eq_false q3)
    all_goals (try first | have d4 : decide (a2 < 0) = true := decide_eq_true q4 | have d4 : decide (a2 < 0) = false := decide_eq_false q4)
    all_goals (try have d5 : decide (a0 ≤ a2) = true := decide_eq_true q5)
    all_goals (try clear q0)
    all_goals (try clear q1)
    all_goals (try clear q2)
    all_goals (try clear q3)
    all_goals (try clear q4)
    all_goals (try clear q5)
    all_goals go_enter Try.func5, Try.ntmps5
    all_goals go_wp2_with (go_at_call 10; refine (HSH.out _).mono ?_; rintro e w1 ⟨rfl, hb⟩; have HB := Lib.hid hb; clear hb HSH)
    all_goals go_ret
    all_goals exact ⟨rfl, HB.out⟩
  obtain ⟨g0, g1, g2, g3, g4, g5⟩ := hgo
  have d0 : decide (a0 < 2) = false := decide_eq_false (by omega)
  have d1 : decide (60 < a0) = false := decide_eq_false (by omega)
  have d2 : decide (a1 < 0) = false := decide_eq_false (by omega)
  have d3 : decide (a0 ≤ a1) = false := decide_eq_false (by omega)
  have d4 : decide (a2 < 0) = false := decide_eq_false (by omega)
  have d5 : decide (a0 ≤ a2) = false := decide_eq_false (by omega)
  obtain ⟨n, rfl⟩ := Int.eq_ofNat_of_zero_le (show 0 ≤ a0 by omega)
  obtain ⟨f, rfl⟩ := Int.eq_ofNat_of_zero_le g2
  obtain ⟨t, rfl⟩ := Int.eq_ofNat_of_zero_le g4
  have hn2 : 2 ≤ n := by omega
  have hn60 : n ≤ 60 := by omega
  have hf : f < n := by omega
  have ht : t < n := by omega
  clear g0 g1 g2 g3 g4 g5
  go_enter Try.func5, Try.ntmps5
  go_upto_region 4 with (go_at_call 10; refine (HSH.out _).mono ?_; rintro e w1 ⟨rfl, hb⟩; have HB := Lib.hid hb; clear hb HSH)
  clear d0 d1 d2 d3 d4 d5
  go_upto_region 5 with (((with_reducible refine gate_dst (N := 39) rfl ?_); refine Kd.R_make (Kd.raw 34) (w0 := w1) w1.heap.size 42 rfl (N := 39) rfl 22 _ _ rfl (n : Int) rfl rfl Try.underlying22 (.agg zN) 288 info42 rfl (by decide) (by omega) (nv0 0 (.slice none 0 0)) (ok := fun _ => True) (okp := fun _ => True) ⟨rfl, rfl, by simp [zN, nv0, Value.oneCell', Value.cells]⟩ (fun _ hk => hk) trivial (by omega) (by rw [Int.toNat_natCast]; omega) (Below.refl _ _) (Nat.le_refl _) ?_; intro v1 w2 ho1 hb1 hg1 hat1; rw [Int.toNat_natCast] at ho1; obtain ⟨O, cap, hv, hO1, hO2, -⟩ := Kd.R_form ho1 (by rw [List.length_replicate]; omega); rw [List.length_replicate] at hv; subst hv; have HP := Aside0.mk (pg_made (Kd.R_lower ho1 HB.out.size) (below_then HB.out HB.out.size hb1)); clear ho1 hb1 hat1 hg1 hO1 hO2 HB))
  have HP0 : Aside0 (∃ val, PgI w w2 O n cap val (partK n 1)) := ⟨_, by
    have e : partK n 1 = fun _ => [] := by funext q; unfold partK; rw [if_neg (by omega)]
    rw [e]; exact HP.out⟩
  clear HP
  go_wp2
  go_loopw [9] (fun i wr => ∃ q : Nat, q + 1 ≤ n ∧ i = .int .i64 ((q : Int) + 1) ∧ Aside0 (∃ val, PgI w wr O n cap val (partK n (q + 1)))) (fun i _ => n - (intOf i).toNat)
  case atStart => exact ⟨0, by omega, rfl, HP0⟩
  case round =>
    obtain ⟨q, hq, rfl, HR⟩ := hrel
    clear HP0
    obtain ⟨val, hP⟩ := HR.out
    have HP := Lib.hid hP
    clear HR hP
    by_cases hlt : q + 1 < n
    · have hltz : (q : Int) + 1 < (n : Int) := by omega
      have hda : decide ((q : Int) + 1 < (n : Int)) = true := decide_eq_true hltz
      have hqn : (q : Int) < (n : Int) := by omega
      obtain ⟨y1, f1, lO, -⟩ := HP.out.at_ (show q < n by omega)
      have hb : BlkIs (wr.alloc (.cells #[.int .i64 ((q : Int) + 1)] 3)) wr.heap.size 3 #[.int .i64 ((q : Int) + 1)] := World.alloc_heap_new wr _
      have HN : Aside0 (∃ val, PgI w ((wr.setCell ⟨O, q * 34 + 1, none⟩ (.slice (some ⟨wr.heap.size, 0, none⟩) 1 1)).alloc (.cells #[.int .i64 ((q : Int) + 1)] 3)) O n cap val (partK n (q + 1 + 1))) := ⟨_, by
        rw [← World.setCell_alloc_past _ _ _ _ lO]
        have h := (HP.out.below ((Below.refl wr.heap.size wr).alloc (Nat.le_refl _) (.cells #[.int .i64 ((q : Int) + 1)] 3))).put (i := q) (by omega) (kids_one hb (by omega))
        have e := partK_next (n := n) (j := q + 1) (by omega)
        rw [Nat.add_sub_cancel] at e
        rw [← e]
        exact h⟩
      clear hb
      go_wp2
      go_roundw
      case rel => exact ⟨q + 1, by omega, by go_num, HN⟩
      case measure => simp [intOf]; omega
    · have hqe : q + 1 = n := by omega
      have hltz : ¬ (q : Int) + 1 < (n : Int) := by omega
      have hda : decide ((q : Int) + 1 < (n : Int)) = false := decide_eq_false hltz
      have hpe : partK n (q + 1) = chainK n := by rw [hqe]; rfl
      rw [hpe] at HP
      have hck := loop_check (n := n) (f := f) (t := t) hn2 hn60 hf ht
      obtain ⟨y1, f1, lO, lw⟩ := HP.out.at_ hf
      obtain ⟨A1, c1, hv1, hl1, hF1⟩ := HP.out.kids f hf
      have hC1 := Kd.F_now hF1
      have hfn : (f : Int) < (n : Int) := by omega
      go_upto_region 9 with fail
      rw [hv1] at y1
      have hB0 : Below wr.heap.size wr wr.drew := (Below.refl _ wr).drew
      refine (wpIn_wide (n := 0)).1 ?_
      refine beginU (fun V : World => V.cell? ⟨O, f * 34 + 1, none⟩ = some (.slice A1 (chainK n f).length c1)) 14 (by kernel_rfl) ?_
      have HS : (fun V : World => V.cell? ⟨O, f * 34 + 1, none⟩ = some (.slice A1 (chainK n f).length c1)) wr.drew := y1
      have HB := Lib.hid hB0
      have HC1 := Lib.hid hC1
      have HY := Lib.hid y1
      clear hB0 y1 hC1 hF1
      generalize wr.drew = w3 at HS HB ⊢
      (refine takeP (i := 0) (d := 52) (v := ?_) rfl rfl (by kernel_rfl) (by kernel_rfl) (by kernel_rfl) (by kernel_rfl) (by kernel_rfl) (fun _ _ _ h => h) ⟨Or.inl ⟨by kernel_rfl, ?_⟩, fun _ => rfl⟩ (fun _ => HS) ?_; rotate_left; (focus (rintro wS -; go_simp; try (with_reducible rfl))); (simp only [List.setIfInBounds_toArray, List.set_cons_zero, List.set_cons_succ]))
      (refine takeP (i := 1) (d := 53) (v := ?_) rfl rfl (by kernel_rfl) (by kernel_rfl) (by kernel_rfl) (by kernel_rfl) (by kernel_rfl) (fun _ _ _ h => h) ⟨Or.inl ⟨by kernel_rfl, ?_⟩, fun _ => rfl⟩ (fun _ => HS) ?_; rotate_left; (focus (rintro wS -; go_simp; try (with_reducible rfl))); (simp only [List.setIfInBounds_toArray, List.set_cons_zero, List.set_cons_succ]))
      (refine takeP (i := 3) (d := 55) (v := ?_) rfl rfl (by kernel_rfl) (by kernel_rfl) (by kernel_rfl) (by kernel_rfl) (by kernel_rfl) (fun _ _ _ h => h) ⟨Or.inl ⟨by kernel_rfl, ?_⟩, fun _ => rfl⟩ (fun _ => HS) ?_; rotate_left; (focus (rintro wS -; go_simp; try (with_reducible rfl))); (simp only [List.setIfInBounds_toArray, List.set_cons_zero, List.set_cons_succ]))
      (refine takeP (i := 4) (d := 56) (v := ?_) rfl rfl (by kernel_rfl) (by kernel_rfl) (by kernel_rfl) (by kernel_rfl) (by kernel_rfl) (fun _ _ _ h => h) ⟨Or.inl ⟨by kernel_rfl, ?_⟩, fun _ => rfl⟩ (fun _ => HS) ?_; rotate_left; (focus (rintro wS -; go_simp; try (with_reducible rfl))); (simp only [List.setIfInBounds_toArray, List.set_cons_zero, List.set_cons_succ]))
      (refine takeP (i := 5) (d := 57) (v := ?_) rfl rfl (by kernel_rfl) (by kernel_rfl) (by kernel_rfl) (by kernel_rfl) (by kernel_rfl) (fun _ _ _ h => h) ⟨Or.inl ⟨by kernel_rfl, ?_⟩, fun _ => rfl⟩ (fun _ => HS) ?_; rotate_left; (focus (rintro wS -; go_simp; try (with_reducible rfl))); (simp only [List.setIfInBounds_toArray, List.set_cons_zero, List.set_cons_succ]))
      (refine takeP (i := 6) (d := 58) (v := ?_) rfl rfl (by kernel_rfl) (by kernel_rfl) (by kernel_rfl) (by kernel_rfl) (by kernel_rfl) (fun _ _ _ h => h) ⟨Or.inl ⟨by kernel_rfl, ?_⟩, fun _ => rfl⟩ (fun _ => HS) ?_; rotate_left; (focus (rintro wS -; go_simp; try (with_reducible rfl))); (simp only [List.setIfInBounds_toArray, List.set_cons_zero, List.set_cons_succ]))
      (refine takeU (i := 7) (d := 59) (v := ?_) rfl rfl (by kernel_rfl) (by kernel_rfl) (by kernel_rfl) (by kernel_rfl) (by kernel_rfl) (by kernel_rfl) (fun _ _ _ h => h) ⟨Or.inl ⟨by kernel_rfl, ?_⟩, fun _ => rfl⟩ HS ?_; rotate_left; (focus (rintro wS s1; go_simp; try (with_reducible rfl))); (simp only [List.setIfInBounds_toArray, List.set_cons_zero, List.set_cons_succ]))
      (refine takeP (i := 9) (d := 61) (v := ?_) rfl rfl (by kernel_rfl) (by kernel_rfl) (by kernel_rfl) (by kernel_rfl) (by kernel_rfl) (fun _ _ _ h => h) ⟨Or.inl ⟨by kernel_rfl, ?_⟩, fun _ => rfl⟩ (fun _ => HS) ?_; rotate_left; (focus (rintro wS -; go_simp; try (with_reducible rfl))); (simp only [List.setIfInBounds_toArray, List.set_cons_zero, List.set_cons_succ]))
      obtain ⟨z2, hz2, hmk⟩ := make_two
      have HKL := Lib.hid (show (chainK n f).length ≤ 1 by unfold chainK; split <;> simp)
      (refine twoU (i := 2) (j := 10) rfl rfl (by kernel_rfl) (fun K hK => ?_) (fun K hK => ?_))
      rotate_left
      focus
        go_simp
        have nB := Lib.hid (HB.out.alloc HB.out.size (.cells #[.int .i64 (t : Int)] 3))
        have HX : Hid (BlkIs (w3.alloc (.cells #[.int .i64 (t : Int)] 3)) w3.heap.size 3 #[.int .i64 (t : Int)]) := Lib.hid (World.alloc_heap_new w3 _)
        clear HB HS
        have HB := nB; clear nB
        generalize w3.alloc (.cells #[.int .i64 (t : Int)] 3) = x1 at HB HX ⊢
        skip
        generalize w3.heap.size = B62 at HX ⊢
        have HS : (fun V : World => V.cell? ⟨O, f * 34 + 1, none⟩ = some (.slice A1 (chainK n f).length c1)) x1 := (HB.out.cell (p := ⟨O, f * 34 + 1, none⟩) lO).trans HY.out
        (refine hK _ _ ⟨(fun _ => HS), ?_⟩; clear hK K; (try (simp only [List.setIfInBounds_toArray, List.set_cons_zero, List.set_cons_succ])))
        (refine oneU (i := 2) rfl (by kernel_rfl) (fun K hK => ?_); go_simp)
        go_simp
        have nB := Lib.hid (HB.out.alloc HB.out.size (.cells z2 3))
        have HRM := Lib.hid (Kd.R_lower (r_made2 hz2 x1) HB.out.size)
        have hMl : x1.heap.size < (x1.alloc (.cells z2 3)).heap.size := by rw [World.size_alloc]; omega
        have hMX : B62 ≠ x1.heap.size := by have := BlkIs.lt HX.out; omega
        have nX := Lib.hid (BlkIs.alloc HX.out (.cells z2 3))
        clear HB HS HX
        have HB := nB; clear nB
        have HX := nX; clear nX
        generalize x1.alloc (.cells z2 3) = x2 at HB HRM hMl HX ⊢
        generalize x1.heap.size = M at HRM hMl hMX ⊢
        have HS : (fun V : World => V.cell? ⟨O, f * 34 + 1, none⟩ = some (.slice A1 (chainK n f).length c1)) x2 := (HB.out.cell (p := ⟨O, f * 34 + 1, none⟩) lO).trans HY.out
        (refine hK _ _ ⟨(fun _ => HS), ?_⟩; clear hK K; (try (simp only [List.setIfInBounds_toArray, List.set_cons_zero, List.set_cons_succ])))
        refine oneU (i := 8) rfl (by kernel_rfl) (fun K hK => ?_)
        refine step_in (by kernel_rfl) (Kd.R_append_rows_step (Kd.int .i64) (Rr := fun x cs => (Kd.int .i64).K wr x cs) (w0 := wr) wr.heap.size (by kernel_rfl) (.tmp 54) (.tmp 59) 29 3 (.int .i64 0) 8 rfl Try.underlying29 info3 rfl (by decide) (by omega) (.slice (some ⟨M, 0, none⟩) 0 2) [] (chainK n f) A1 (chainK n f).length c1 (fun _ => True) (fun _ => False) rfl rfl HRM.out (ReadsRow.imp_ HC1.out HB.out (fun _ _ h => h)) (fun x cs h => h) (fun _ hk => hk.elim) (fun _ _ => trivial) HB.out HB.out.size (by have := HKL.out; simp; omega) ?_)
        intro v60 w6 ho1 hb1 hg1 hat1
        rw [List.nil_append] at ho1
        have HRK := Lib.hid ho1
        have nX := Lib.hid (BlkIs.grown HX.out hg1 (by intro e; injection e with e; exact hMX e))
        clear HB HS HRM ho1 hg1 hat1 HX
        have HB := Lib.hid hb1
        clear hb1
        have HX := nX; clear nX hMX
        (try clear hMl)
        have HS : (fun V : World => V.cell? ⟨O, f * 34 + 1, none⟩ = some (.slice A1 (chainK n f).length c1)) w6 := (HB.out.cell (p := ⟨O, f * 34 + 1, none⟩) lO).trans HY.out
        refine put_to (d := 60) rfl ?_
        (simp only [List.setIfInBounds_toArray, List.set_cons_zero, List.set_cons_succ])
        (refine hK _ _ ⟨(fun _ => HS), ?_⟩; clear hK K; (try (simp only [List.setIfInBounds_toArray, List.set_cons_zero, List.set_cons_succ])))
        refine oneU (i := 11) rfl (by kernel_rfl) (fun K hK => ?_)
        refine step_in (by kernel_rfl) (Kd.R_append_rows_step (Kd.int .i64) (Rr := fun x cs => (Kd.int .i64).K w6 x cs) (w0 := wr) wr.heap.size (by kernel_rfl) (.tmp 60) (.tmp 62) 29 3 (.int .i64 0) 8 rfl Try.underlying29 info3 rfl (by decide) (by omega) v60 (chainK n f) [(t : Int)] (some ⟨B62, 0, none⟩) 1 1 (fun _ => True) (fun _ => False) rfl rfl HRK.out (c_ints HX.out (xs := [(t : Int)]) rfl (by simp)) (fun x cs h => h) (fun _ hk => hk.elim) (fun _ _ => trivial) HB.out HB.out.size (by have := HKL.out; omega) ?_)
        intro v63 w7 ho1 hb1 hg1 hat1
        have HRL := Lib.hid ho1
        clear HB HS HRK HX ho1 hg1 hat1
        have HB := Lib.hid hb1
        clear hb1
        have HS : (fun V : World => V.cell? ⟨O, f * 34 + 1, none⟩ = some (.slice A1 (chainK n f).length c1)) w7 := (HB.out.cell (p := ⟨O, f * 34 + 1, none⟩) lO).trans HY.out
        refine put_to (d := 63) rfl ?_
        (simp only [List.setIfInBounds_toArray, List.set_cons_zero, List.set_cons_succ])
        (refine hK _ _ ⟨(fun _ => HS), ?_⟩; clear hK K; (try (simp only [List.setIfInBounds_toArray, List.set_cons_zero, List.set_cons_succ])))
        obtain ⟨ks, hks⟩ : ∃ ks, ks = chainK n f ++ [(t : Int)] := ⟨_, rfl⟩
        rw [← hks] at HRL
        obtain ⟨E1, e1, rfl⟩ := Kd.R_slice HRL.out
        have hP7 := HP.out.below HB.out
        have hKA : KidsAt w7 O (.slice E1 ks.length e1) ks := ⟨E1, e1, rfl, (Kd.R_reads' HRL.out).2.1, Kd.R_F (Kd.R_mono (Kd.R_bound HRL.out) (fun k hk => by have := hk.2.1; omega))⟩
        have hP8 := hP7.put hf hKA
        rw [hks, loop_g, ← hks] at hP8
        have HQ := Lib.hid hP8
        obtain ⟨y1, f1, lO7, -⟩ := hP7.at_ hf
        clear hP7 hKA hP8 HP HRL HKL hks
        (refine takeP (i := 12) (d := 64) (v := ?_) rfl rfl (by kernel_rfl) (by kernel_rfl) (by kernel_rfl) (by kernel_rfl) (by kernel_rfl) (fun _ _ _ h => h) ⟨Or.inl ⟨by kernel_rfl, ?_⟩, fun _ => rfl⟩ (fun _ => HS) ?_; rotate_left; (focus (rintro wS -; go_simp; try (with_reducible rfl))); (simp only [List.setIfInBounds_toArray, List.set_cons_zero, List.set_cons_succ]))
        (refine takeP (i := 13) (d := 65) (v := ?_) rfl rfl (by kernel_rfl) (by kernel_rfl) (by kernel_rfl) (by kernel_rfl) (by kernel_rfl) (fun _ _ _ h => h) ⟨Or.inl ⟨by kernel_rfl, ?_⟩, fun _ => rfl⟩ (fun _ => HS) ?_; rotate_left; (focus (rintro wS -; go_simp; try (with_reducible rfl))); (simp only [List.setIfInBounds_toArray, List.set_cons_zero, List.set_cons_succ]))
        (refine oneU (i := 14) rfl (by kernel_rfl) (fun K hK => ?_); go_simp)
        generalize w7.setCell ⟨O, f * 34 + 1, none⟩ (.slice E1 ks.length e1) = w8 at HQ ⊢
        (refine hK _ _ ⟨(no_more (by kernel_rfl)), ?_⟩; clear hK K; (try (simp only [List.setIfInBounds_toArray, List.set_cons_zero, List.set_cons_succ])))
        (refine doneU (by kernel_rfl) ?_ _)
        clear HB HS y1 f1 lO7 HC1 HY
        have hpg := HQ.out.page (by omega)
        have hll : (linksOf (loopL n f t)).length ≤ 1000000000 := by have := links_len (l := loopL n f t) (b := 2) (fun x hx => by obtain ⟨i, -, rfl⟩ := List.mem_map.1 hx; show (loopK n f t i).length ≤ 2; unfold loopK chainK; split <;> split <;> simp); rw [show (loopL n f t).length = n from plain_len _ _] at this; omega
        have HBF := Lib.hid HQ.out.b
        by_cases hz : t = 0
        · have HC := Lib.hid (check_page (l := loopL n f t) (n := n) (plain_len _ _) hll (f : Int) 40 (by rw [hck, if_pos hz]) (by rw [hck, if_pos hz]) (some ⟨O, 0, none⟩) cap w8 hpg.1 hpg.2)
          have hzb : ((t : Int) == 0) = true := by simp; omega
          have hff : ((f : Int) == (f : Int)) = true := by simp
          have htt : ((t : Int) == (t : Int)) = true := by simp
          clear hz hck hpg hll HQ
          go_wp2_with (go_at_call 11; refine HC.out.mono ?_; rintro e w9 ⟨rfl, hb⟩; have HB5 := Lib.hid (below_then HBF.out HBF.out.size hb); clear hb HBF HC)
          go_ret
          exact ⟨rfl, HB5.out⟩
        · have HC := Lib.hid (check_page (l := loopL n f t) (n := n) (plain_len _ _) hll (t : Int) 41 (by rw [hck, if_neg hz]) (by rw [hck, if_neg hz]) (some ⟨O, 0, none⟩) cap w8 hpg.1 hpg.2)
          have hzb : ((t : Int) == 0) = false := by simp; omega
          have hff : ((f : Int) == (f : Int)) = true := by simp
          have htt : ((t : Int) == (t : Int)) = true := by simp
          clear hz hck hpg hll HQ
          go_wp2_with (go_at_call 11; refine HC.out.mono ?_; rintro e w9 ⟨rfl, hb⟩; have HB5 := Lib.hid (below_then HBF.out HBF.out.size hb); clear hb HBF HC)
          go_ret
          exact ⟨rfl, HB5.out⟩
      go_simp
      have nB := Lib.hid (HB.out.alloc HB.out.size (.cells z2 3))
      have HRM := Lib.hid (Kd.R_lower (r_made2 hz2 w3) HB.out.size)
      have hMl : w3.heap.size < (w3.alloc (.cells z2 3)).heap.size := by rw [World.size_alloc]; omega
      clear HB HS
      have HB := nB; clear nB
      generalize w3.alloc (.cells z2 3) = x1 at HB HRM hMl ⊢
      generalize w3.heap.size = M at HRM hMl ⊢
      have HS : (fun V : World => V.cell? ⟨O, f * 34 + 1, none⟩ = some (.slice A1 (chainK n f).length c1)) x1 := (HB.out.cell (p := ⟨O, f * 34 + 1, none⟩) lO).trans HY.out
      (refine hK _ _ ⟨(fun _ => HS), ?_⟩; clear hK K; (try (simp only [List.setIfInBounds_toArray, List.set_cons_zero, List.set_cons_succ])))
      (refine twoU (i := 8) (j := 10) rfl rfl (by kernel_rfl) (fun K hK => ?_) (fun K hK => ?_))
      rotate_left
      focus
        go_simp
        have nB := Lib.hid (HB.out.alloc HB.out.size (.cells #[.int .i64 (t : Int)] 3))
        have HX : Hid (BlkIs (x1.alloc (.cells #[.int .i64 (t : Int)] 3)) x1.heap.size 3 #[.int .i64 (t : Int)]) := Lib.hid (World.alloc_heap_new x1 _)
        have nHRM := Lib.hid (Kd.R_alloc HRM.out (.cells #[.int .i64 (t : Int)] 3))
        have hMX : x1.heap.size ≠ M := by omega
        clear HB HS HRM
        have HB := nB; clear nB
        have HRM := nHRM; clear nHRM
        generalize x1.alloc (.cells #[.int .i64 (t : Int)] 3) = x2 at HB HX HRM ⊢
        (try clear hMl)
        generalize x1.heap.size = B62 at HX hMX ⊢
        have HS : (fun V : World => V.cell? ⟨O, f * 34 + 1, none⟩ = some (.slice A1 (chainK n f).length c1)) x2 := (HB.out.cell (p := ⟨O, f * 34 + 1, none⟩) lO).trans HY.out
        (refine hK _ _ ⟨(fun _ => HS), ?_⟩; clear hK K; (try (simp only [List.setIfInBounds_toArray, List.set_cons_zero, List.set_cons_succ])))
        refine oneU (i := 8) rfl (by kernel_rfl) (fun K hK => ?_)
        refine step_in (by kernel_rfl) (Kd.R_append_rows_step (Kd.int .i64) (Rr := fun x cs => (Kd.int .i64).K wr x cs) (w0 := wr) wr.heap.size (by kernel_rfl) (.tmp 54) (.tmp 59) 29 3 (.int .i64 0) 8 rfl Try.underlying29 info3 rfl (by decide) (by omega) (.slice (some ⟨M, 0, none⟩) 0 2) [] (chainK n f) A1 (chainK n f).length c1 (fun _ => True) (fun _ => False) rfl rfl HRM.out (ReadsRow.imp_ HC1.out HB.out (fun _ _ h => h)) (fun x cs h => h) (fun _ hk => hk.elim) (fun _ _ => trivial) HB.out HB.out.size (by have := HKL.out; simp; omega) ?_)
        intro v60 w6 ho1 hb1 hg1 hat1
        rw [List.nil_append] at ho1
        have HRK := Lib.hid ho1
        have nX := Lib.hid (BlkIs.grown HX.out hg1 (by intro e; injection e with e; exact hMX e))
        clear HB HS HRM ho1 hg1 hat1 HX
        have HB := Lib.hid hb1
        clear hb1
        have HX := nX; clear nX hMX
        (try clear hMl)
        have HS : (fun V : World => V.cell? ⟨O, f * 34 + 1, none⟩ = some (.slice A1 (chainK n f).length c1)) w6 := (HB.out.cell (p := ⟨O, f * 34 + 1, none⟩) lO).trans HY.out
        refine put_to (d := 60) rfl ?_
        (simp only [List.setIfInBounds_toArray, List.set_cons_zero, List.set_cons_succ])
        (refine hK _ _ ⟨(fun _ => HS), ?_⟩; clear hK K; (try (simp only [List.setIfInBounds_toArray, List.set_cons_zero, List.set_cons_succ])))
        refine oneU (i := 11) rfl (by kernel_rfl) (fun K hK => ?_)
        refine step_in (by kernel_rfl) (Kd.R_append_rows_step (Kd.int .i64) (Rr := fun x cs => (Kd.int .i64).K w6 x cs) (w0 := wr) wr.heap.size (by kernel_rfl) (.tmp 60) (.tmp 62) 29 3 (.int .i64 0) 8 rfl Try.underlying29 info3 rfl (by decide) (by omega) v60 (chainK n f) [(t : Int)] (some ⟨B62, 0, none⟩) 1 1 (fun _ => True) (fun _ => False) rfl rfl HRK.out (c_ints HX.out (xs := [(t : Int)]) rfl (by simp)) (fun x cs h => h) (fun _ hk => hk.elim) (fun _ _ => trivial) HB.out HB.out.size (by have := HKL.out; omega) ?_)
        intro v63 w7 ho1 hb1 hg1 hat1
        have HRL := Lib.hid ho1
        clear HB HS HRK HX ho1 hg1 hat1
        have HB := Lib.hid hb1
        clear hb1
        have HS : (fun V : World => V.cell? ⟨O, f * 34 + 1, none⟩ = some (.slice A1 (chainK n f).length c1)) w7 := (HB.out.cell (p := ⟨O, f * 34 + 1, none⟩) lO).trans HY.out
        refine put_to (d := 63) rfl ?_
        (simp only [List.setIfInBounds_toArray, List.set_cons_zero, List.set_cons_succ])
        (refine hK _ _ ⟨(fun _ => HS), ?_⟩; clear hK K; (try (simp only [List.setIfInBounds_toArray, List.set_cons_zero, List.set_cons_succ])))
        obtain ⟨ks, hks⟩ : ∃ ks, ks = chainK n f ++ [(t : Int)] := ⟨_, rfl⟩
        rw [← hks] at HRL
        obtain ⟨E1, e1, rfl⟩ := Kd.R_slice HRL.out
        have hP7 := HP.out.below HB.out
        have hKA : KidsAt w7 O (.slice E1 ks.length e1) ks := ⟨E1, e1, rfl, (Kd.R_reads' HRL.out).2.1, Kd.R_F (Kd.R_mono (Kd.R_bound HRL.out) (fun k hk => by have := hk.2.1; omega))⟩
        have hP8 := hP7.put hf hKA
        rw [hks, loop_g, ← hks] at hP8
        have HQ := Lib.hid hP8
        obtain ⟨y1, f1, lO7, -⟩ := hP7.at_ hf
        clear hP7 hKA hP8 HP HRL HKL hks
        (refine takeP (i := 12) (d := 64) (v := ?_) rfl rfl (by kernel_rfl) (by kernel_rfl) (by kernel_rfl) (by kernel_rfl) (by kernel_rfl) (fun _ _ _ h => h) ⟨Or.inl ⟨by kernel_rfl, ?_⟩, fun _ => rfl⟩ (fun _ => HS) ?_; rotate_left; (focus (rintro wS -; go_simp; try (with_reducible rfl))); (simp only [List.setIfInBounds_toArray, List.set_cons_zero, List.set_cons_succ]))
        (refine takeP (i := 13) (d := 65) (v := ?_) rfl rfl (by kernel_rfl) (by kernel_rfl) (by kernel_rfl) (by kernel_rfl) (by kernel_rfl) (fun _ _ _ h => h) ⟨Or.inl ⟨by kernel_rfl, ?_⟩, fun _ => rfl⟩ (fun _ => HS) ?_; rotate_left; (focus (rintro wS -; go_simp; try (with_reducible rfl))); (simp only [List.setIfInBounds_toArray, List.set_cons_zero, List.set_cons_succ]))
        (refine oneU (i := 14) rfl (by kernel_rfl) (fun K hK => ?_); go_simp)
        generalize w7.setCell ⟨O, f * 34 + 1, none⟩ (.slice E1 ks.length e1) = w8 at HQ ⊢
        (refine hK _ _ ⟨(no_more (by kernel_rfl)), ?_⟩; clear hK K; (try (simp only [List.setIfInBounds_toArray, List.set_cons_zero, List.set_cons_succ])))
        (refine doneU (by kernel_rfl) ?_ _)
        clear HB HS y1 f1 lO7 HC1 HY
        have hpg := HQ.out.page (by omega)
        have hll : (linksOf (loopL n f t)).length ≤ 1000000000 := by have := links_len (l := loopL n f t) (b := 2) (fun x hx => by obtain ⟨i, -, rfl⟩ := List.mem_map.1 hx; show (loopK n f t i).length ≤ 2; unfold loopK chainK; split <;> split <;> simp); rw [show (loopL n f t).length = n from plain_len _ _] at this; omega
        have HBF := Lib.hid HQ.out.b
        by_cases hz : t = 0
        · have HC := Lib.hid (check_page (l := loopL n f t) (n := n) (plain_len _ _) hll (f : Int) 40 (by rw [hck, if_pos hz]) (by rw [hck, if_pos hz]) (some ⟨O, 0, none⟩) cap w8 hpg.1 hpg.2)
          have hzb : ((t : Int) == 0) = true := by simp; omega
          have hff : ((f : Int) == (f : Int)) = true := by simp
          have htt : ((t : Int) == (t : Int)) = true := by simp
          clear hz hck hpg hll HQ
          go_wp2_with (go_at_call 11; refine HC.out.mono ?_; rintro e w9 ⟨rfl, hb⟩; have HB5 := Lib.hid (below_then HBF.out HBF.out.size hb); clear hb HBF HC)
          go_ret
          exact ⟨rfl, HB5.out⟩
        · have HC := Lib.hid (check_page (l := loopL n f t) (n := n) (plain_len _ _) hll (t : Int) 41 (by rw [hck, if_neg hz]) (by rw [hck, if_neg hz]) (some ⟨O, 0, none⟩) cap w8 hpg.1 hpg.2)
          have hzb : ((t : Int) == 0) = false := by simp; omega
          have hff : ((f : Int) == (f : Int)) = true := by simp
          have htt : ((t : Int) == (t : Int)) = true := by simp
          clear hz hck hpg hll HQ
          go_wp2_with (go_at_call 11; refine HC.out.mono ?_; rintro e w9 ⟨rfl, hb⟩; have HB5 := Lib.hid (below_then HBF.out HBF.out.size hb); clear hb HBF HC)
          go_ret
          exact ⟨rfl, HB5.out⟩
      refine step_in (by kernel_rfl) (Kd.R_append_rows_step (Kd.int .i64) (Rr := fun x cs => (Kd.int .i64).K wr x cs) (w0 := wr) wr.heap.size (by kernel_rfl) (.tmp 54) (.tmp 59) 29 3 (.int .i64 0) 8 rfl Try.underlying29 info3 rfl (by decide) (by omega) (.slice (some ⟨M, 0, none⟩) 0 2) [] (chainK n f) A1 (chainK n f).length c1 (fun _ => True) (fun _ => False) rfl rfl HRM.out (ReadsRow.imp_ HC1.out HB.out (fun _ _ h => h)) (fun x cs h => h) (fun _ hk => hk.elim) (fun _ _ => trivial) HB.out HB.out.size (by have := HKL.out; simp; omega) ?_)
      intro v60 x2 ho1 hb1 hg1 hat1
      rw [List.nil_append] at ho1
      have HRK := Lib.hid ho1
      clear HB HS HRM ho1 hg1 hat1
      have HB := Lib.hid hb1
      clear hb1
      (try clear hMl)
      have HS : (fun V : World => V.cell? ⟨O, f * 34 + 1, none⟩ = some (.slice A1 (chainK n f).length c1)) x2 := (HB.out.cell (p := ⟨O, f * 34 + 1, none⟩) lO).trans HY.out
      refine put_to (d := 60) rfl ?_
      (simp only [List.setIfInBounds_toArray, List.set_cons_zero, List.set_cons_succ])
      (refine hK _ _ ⟨(fun _ => HS), ?_⟩; clear hK K; (try (simp only [List.setIfInBounds_toArray, List.set_cons_zero, List.set_cons_succ])))
      (refine oneU (i := 10) rfl (by kernel_rfl) (fun K hK => ?_); go_simp)
      go_simp
      have nB := Lib.hid (HB.out.alloc HB.out.size (.cells #[.int .i64 (t : Int)] 3))
      have HX : Hid (BlkIs (x2.alloc (.cells #[.int .i64 (t : Int)] 3)) x2.heap.size 3 #[.int .i64 (t : Int)]) := Lib.hid (World.alloc_heap_new x2 _)
      have nHRK := Lib.hid (Kd.R_alloc HRK.out (.cells #[.int .i64 (t : Int)] 3))
      clear HB HS HRK
      have HB := nB; clear nB
      have HRK := nHRK; clear nHRK
      generalize x2.alloc (.cells #[.int .i64 (t : Int)] 3) = w6 at HB HX HRK ⊢
      skip
      generalize x2.heap.size = B62 at HX ⊢
      have HS : (fun V : World => V.cell? ⟨O, f * 34 + 1, none⟩ = some (.slice A1 (chainK n f).length c1)) w6 := (HB.out.cell (p := ⟨O, f * 34 + 1, none⟩) lO).trans HY.out
      (refine hK _ _ ⟨(fun _ => HS), ?_⟩; clear hK K; (try (simp only [List.setIfInBounds_toArray, List.set_cons_zero, List.set_cons_succ])))
      refine oneU (i := 11) rfl (by kernel_rfl) (fun K hK => ?_)
      refine step_in (by kernel_rfl) (Kd.R_append_rows_step (Kd.int .i64) (Rr := fun x cs => (Kd.int .i64).K w6 x cs) (w0 := wr) wr.heap.size (by kernel_rfl) (.tmp 60) (.tmp 62) 29 3 (.int .i64 0) 8 rfl Try.underlying29 info3 rfl (by decide) (by omega) v60 (chainK n f) [(t : Int)] (some ⟨B62, 0, none⟩) 1 1 (fun _ => True) (fun _ => False) rfl rfl HRK.out (c_ints HX.out (xs := [(t : Int)]) rfl (by simp)) (fun x cs h => h) (fun _ hk => hk.elim) (fun _ _ => trivial) HB.out HB.out.size (by have := HKL.out; omega) ?_)
      intro v63 w7 ho1 hb1 hg1 hat1
      have HRL := Lib.hid ho1
      clear HB HS HRK HX ho1 hg1 hat1
      have HB := Lib.hid hb1
      clear hb1
      have HS : (fun V : World => V.cell? ⟨O, f * 34 + 1, none⟩ = some (.slice A1 (chainK n f).length c1)) w7 := (HB.out.cell (p := ⟨O, f * 34 + 1, none⟩) lO).trans HY.out
      refine put_to (d := 63) rfl ?_
      (simp only [List.setIfInBounds_toArray, List.set_cons_zero, List.set_cons_succ])
      (refine hK _ _ ⟨(fun _ => HS), ?_⟩; clear hK K; (try (simp only [List.setIfInBounds_toArray, List.set_cons_zero, List.set_cons_succ])))
      obtain ⟨ks, hks⟩ : ∃ ks, ks = chainK n f ++ [(t : Int)] := ⟨_, rfl⟩
      rw [← hks] at HRL
      obtain ⟨E1, e1, rfl⟩ := Kd.R_slice HRL.out
      have hP7 := HP.out.below HB.out
      have hKA : KidsAt w7 O (.slice E1 ks.length e1) ks := ⟨E1, e1, rfl, (Kd.R_reads' HRL.out).2.1, Kd.R_F (Kd.R_mono (Kd.R_bound HRL.out) (fun k hk => by have := hk.2.1; omega))⟩
      have hP8 := hP7.put hf hKA
      rw [hks, loop_g, ← hks] at hP8
      have HQ := Lib.hid hP8
      obtain ⟨y1, f1, lO7, -⟩ := hP7.at_ hf
      clear hP7 hKA hP8 HP HRL HKL hks
      (refine takeP (i := 12) (d := 64) (v := ?_) rfl rfl (by kernel_rfl) (by kernel_rfl) (by kernel_rfl) (by kernel_rfl) (by kernel_rfl) (fun _ _ _ h => h) ⟨Or.inl ⟨by kernel_rfl, ?_⟩, fun _ => rfl⟩ (fun _ => HS) ?_; rotate_left; (focus (rintro wS -; go_simp; try (with_reducible rfl))); (simp only [List.setIfInBounds_toArray, List.set_cons_zero, List.set_cons_succ]))
      (refine takeP (i := 13) (d := 65) (v := ?_) rfl rfl (by kernel_rfl) (by kernel_rfl) (by kernel_rfl) (by kernel_rfl) (by kernel_rfl) (fun _ _ _ h => h) ⟨Or.inl ⟨by kernel_rfl, ?_⟩, fun _ => rfl⟩ (fun _ => HS) ?_; rotate_left; (focus (rintro wS -; go_simp; try (with_reducible rfl))); (simp only [List.setIfInBounds_toArray, List.set_cons_zero, List.set_cons_succ]))
      (refine oneU (i := 14) rfl (by kernel_rfl) (fun K hK => ?_); go_simp)
      generalize w7.setCell ⟨O, f * 34 + 1, none⟩ (.slice E1 ks.length e1) = w8 at HQ ⊢
      (refine hK _ _ ⟨(no_more (by kernel_rfl)), ?_⟩; clear hK K; (try (simp only [List.setIfInBounds_toArray, List.set_cons_zero, List.set_cons_succ])))
      (refine doneU (by kernel_rfl) ?_ _)
      clear HB HS y1 f1 lO7 HC1 HY
      have hpg := HQ.out.page (by omega)
      have hll : (linksOf (loopL n f t)).length ≤ 1000000000 := by have := links_len (l := loopL n f t) (b := 2) (fun x hx => by obtain ⟨i, -, rfl⟩ := List.mem_map.1 hx; show (loopK n f t i).length ≤ 2; unfold loopK chainK; split <;> split <;> simp); rw [show (loopL n f t).length = n from plain_len _ _] at this; omega
      have HBF := Lib.hid HQ.out.b
      by_cases hz : t = 0
      · have HC := Lib.hid (check_page (l := loopL n f t) (n := n) (plain_len _ _) hll (f : Int) 40 (by rw [hck, if_pos hz]) (by rw [hck, if_pos hz]) (some ⟨O, 0, none⟩) cap w8 hpg.1 hpg.2)
        have hzb : ((t : Int) == 0) = true := by simp; omega
        have hff : ((f : Int) == (f : Int)) = true := by simp
        have htt : ((t : Int) == (t : Int)) = true := by simp
        clear hz hck hpg hll HQ
        go_wp2_with (go_at_call 11; refine HC.out.mono ?_; rintro e w9 ⟨rfl, hb⟩; have HB5 := Lib.hid (below_then HBF.out HBF.out.size hb); clear hb HBF HC)
        go_ret
        exact ⟨rfl, HB5.out⟩
      · have HC := Lib.hid (check_page (l := loopL n f t) (n := n) (plain_len _ _) hll (t : Int) 41 (by rw [hck, if_neg hz]) (by rw [hck, if_neg hz]) (some ⟨O, 0, none⟩) cap w8 hpg.1 hpg.2)
        have hzb : ((t : Int) == 0) = false := by simp; omega
        have hff : ((f : Int) == (f : Int)) = true := by simp
        have htt : ((t : Int) == (t : Int)) = true := by simp
        clear hz hck hpg hll HQ
        go_wp2_with (go_at_call 11; refine HC.out.mono ?_; rintro e w9 ⟨rfl, hb⟩; have HB5 := Lib.hid (below_then HBF.out HBF.out.size hb); clear hb HBF HC)
        go_ret
        exact ⟨rfl, HB5.out⟩
end Go.Proofs.Ytmmgdokaapphgaa.K
