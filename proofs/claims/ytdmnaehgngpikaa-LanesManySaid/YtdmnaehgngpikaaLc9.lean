/- Layer 6: LanesMany, walked. -/
import Derived.Test.YtdmnaehgngpikaaLc8
import Derived.Test.YtdmnaehgngpikaaLb2
import Derived.Test.YtdmnaehgngpikaaTrU
namespace Go.Proofs.Ytdmnaehgngpikaa.K
open Go.RowKit Go.Proofs.YtdmnaehgngpikaaW.PrintWords Go.Proofs.YtdmnaehgngpikaaW.PrintLast Go.Proofs.YtdmnaehgngpikaaW.PrintMore
set_option linter.unusedVariables false
set_option linter.unusedSimpArgs false
attribute [local go_sem] Oper.semAt_some
theorem litS_build (W : World) (s : Int) : (Instr.buildSlice 22 1 #[(0, .agg (nvS s).toArray)]).run Try.prog W =
    .ok (.slice (some ⟨W.heap.size, 0, none⟩) 1 1) (W.alloc (.cells (nvS s).toArray 48)) := by kernel_rfl
theorem nv0_one (k : Int) (v : Value) (hv : v.oneCell' = true) : ∀ u ∈ nv0 k v, u.oneCell' = true :=
  List.forall_mem_cons.2 ⟨rfl, List.forall_mem_cons.2 ⟨hv, List.all_eq_true.1 (by rfl)⟩⟩
theorem nvS_one (s : Int) : ∀ u ∈ nvS s, u.oneCell' = true := List.all_eq_true.1 (by rfl)
/-- a table that is built: k kids, n columns -/
structure LmI (w W : World) (O n k cap : Nat) (v : Value) (s : Int) : Prop where
  out : Kd.R (Kd.raw 34) 48 W w.heap.size (fun _ => True) (.slice (some ⟨O, 0, none⟩) (n + 1) cap) (nv0 2 v :: List.replicate n (nvS s))
  kids : Kd.R (Kd.int .i64) 3 W w.heap.size (fun _ => True) v (upK k)
  b : Below w.heap.size w W
theorem LmI.at_ {w W : World} {O n k cap : Nat} {v : Value} {s : Int} (h : LmI w W O n k cap v s) : W.cell? ⟨O, 1, none⟩ = some v ∧ W.frozen? ⟨O, 1, none⟩ = false ∧ O < W.heap.size ∧ w.heap.size ≤ O ∧ ∃ cells, W.heap[O]? = some (.cells cells 48 (0, 0)) := by
  obtain ⟨c', h1, h2, h3, h4⟩ := Kd.R_elem h.out ([] : List Value) 0 (by omega) (by omega)
  rw [List.getD_eq_getElem?_getD] at h2
  obtain rfl : c' = nv0 2 v := h2.1
  obtain ⟨g, cp, he, hb, hlt, hc⟩ := Kd.R_form h.out (by simp)
  injection he with he _ _
  injection he with he
  injection he with he _ _
  subst he
  have h3' := h3 1 v rfl
  have h4' := h4 1
  exact ⟨h3', h4', hlt, hb, hc⟩
theorem LmI.own {w W w1 : World} {O n k cap : Nat} {v : Value} {s : Int} (h : LmI w W O n k cap v s) (hg : W.grownBy w1 v.ownBlock) : Kd.R (Kd.raw 34) 48 w1 w.heap.size (fun _ => True) (.slice (some ⟨O, 0, none⟩) (n + 1) cap) (nv0 2 v :: List.replicate n (nvS s)) :=
  Kd.R_over h.out h.kids (fun q hq => by rw [List.mem_singleton.1 hq]; decide) hg
theorem LmI.put {w W w1 : World} {O n k cap : Nat} {v v1 : Value} {s : Int} (h : LmI w W O n k cap v s) (hg : W.grownBy w1 v.ownBlock) (hk : Kd.R (Kd.int .i64) 3 w1 w.heap.size (fun _ => True) v1 (upK (k + 1))) (hb : Below w.heap.size w w1) :
    LmI w (w1.setCell ⟨O, 1, none⟩ v1) O n (k + 1) cap v1 s ∧ w1.cell? ⟨O, 1, none⟩ = some v ∧ w1.frozen? ⟨O, 1, none⟩ = false ∧ O < w1.heap.size := by
  have hR := h.own hg
  have hL : LmI w w1 O n (k + 1) cap v s ∨ True := .inr trivial
  obtain ⟨c', h1, h2, h3, h4⟩ := Kd.R_elem hR ([] : List Value) 0 (by omega) (by omega)
  rw [List.getD_eq_getElem?_getD] at h2
  obtain rfl : c' = nv0 2 v := h2.1
  obtain ⟨g, cp, he, hb0, hlt, cells, hc⟩ := Kd.R_form hR (by simp)
  injection he with he _ _
  injection he with he
  injection he with he _ _
  subst he
  obtain ⟨A1, c1, rfl⟩ := Kd.R_slice hk
  have hp := (Kd.R_seg hR 0 (by omega) (by omega) (c := nv0 2 v) (seg := [Value.slice A1 (upK (k + 1)).length c1]) (j := 1) rfl h3 (by show 1 + 1 ≤ 34; omega) (x' := nv0 2 (.slice A1 (upK (k + 1)).length c1)) (okp := fun _ => False)
    ⟨rfl, rfl, nv0_one _ _ rfl⟩ (fun _ hk => hk.elim)).1
  refine ⟨⟨hp, ?_, hb.setCell (p := ⟨O, 1, none⟩) hb0 _⟩, h3 1 v rfl, h4 1, hlt⟩
  exact Kd.R_mono (Kd.R_step (Kd.R_bound hk) (fun q hq _ => Below.heap_setCell w1 ⟨O, 1, none⟩ _ q (fun e => by
    obtain ⟨_, _, _, t, ht, cells', hc'⟩ := hq
    have e' : q = O := e
    rw [e', hc] at hc'
    injection hc' with hc'
    injection hc' with _ hc'
    rw [List.mem_singleton.1 ht] at hc'
    exact absurd hc' (by decide)))) (fun _ _ => trivial)
theorem LmI.grow {w W w1 : World} {O n k cap : Nat} {v v1 : Value} {s : Int} (h : LmI w W O n k cap v s) (hg : W.grownBy w1 (some O)) (hk : Kd.R (Kd.raw 34) 48 w1 w.heap.size (fun _ => True) v1 (nv0 2 v :: List.replicate n (nvS s) ++ [nvS s])) (hb : Below w.heap.size w w1) :
    ∃ O1 cap1, v1 = .slice (some ⟨O1, 0, none⟩) (n + 1 + 1) cap1 ∧ LmI w w1 O1 (n + 1) k cap1 v s := by
  obtain ⟨g, cp, he, hb0, hlt, cells, hc⟩ := Kd.R_form hk (by simp)
  have hl : (nv0 2 v :: List.replicate n (nvS s) ++ [nvS s]).length = n + 1 + 1 := by simp
  rw [hl] at he
  subst he
  refine ⟨g, cp, rfl, ?_, ?_, hb⟩
  · rw [show nv0 2 v :: List.replicate (n + 1) (nvS s) = nv0 2 v :: List.replicate n (nvS s) ++ [nvS s] by rw [List.replicate_succ']; rfl]
    exact hk
  · exact Kd.R_over h.kids h.out (fun q hq => by rw [List.mem_singleton.1 hq]; decide) hg
theorem LmI.page {w W : World} {O n cap : Nat} {v : Value} {s : Int} (h : LmI w W O n n cap v s) : Kd.C k48 W (some ⟨O, 0, none⟩) (pageS s n).length (pageS s n) ∧ (pageS s n).length ≤ cap := by
  obtain ⟨hl, hc, hC⟩ := Kd.R_reads' h.out
  obtain ⟨A, c, rfl, hle, hK⟩ := Kd.R_reads h.kids
  have hlen : (nv0 2 (Value.slice A (upK n).length c) :: List.replicate n (nvS s)).length = (pageS s n).length := by simp [pageS]
  refine ⟨c_of_raw hlen hC (fun j x cs hx hcs => ?_), by rw [pageS_len]; omega⟩
  cases j with
  | zero =>
    cases hx; cases hcs
    exact nv0_K hle hK
  | succ j =>
    unfold pageS at hx
    rw [List.getElem?_cons_succ] at hx hcs
    obtain ⟨_, rfl⟩ := List.getElem?_eq_some_iff.1 hx
    obtain ⟨_, rfl⟩ := List.getElem?_eq_some_iff.1 hcs
    rw [List.getElem_replicate, List.getElem_replicate]
    exact nvS_K W s
def purflinglaw06_LanesMany.f (a0 a1 : Int) : Option Bool := some true
theorem pure_LanesMany {P Q : Prop} : ∀ a0 a1 : Int, P → Q → purflinglaw06_LanesMany.f a0 a1 = some true := fun _ _ _ _ => rfl
set_option maxRecDepth 100000 in
set_option maxHeartbeats 4000000 in
theorem purflinglaw06_LanesMany.calls (a0 a1 : Int) (r : Bool) (w : World) (h : purflinglaw06_LanesMany.f a0 a1 = some r) :
    Calls Try.prog 6 #[.int .i64 a0, .int .i64 a1] w fun e w' => e = .returned (.bool r) ∧ Below w.heap.size w w' := by
  obtain rfl : true = r := Option.some.inj h
  clear h
  have HSH := Lib.hid (fun W => purflinglaw06_shown.calls true W rfl)
  by_cases q0 : a0 < 1
  focus
    have hd0 : decide (a0 < 1) = true := decide_eq_true q0
    clear q0
    go_enter Try.func6, Try.ntmps6
    go_wp2_with (go_at_call 10; refine (HSH.out _).mono ?_; rintro e w1 ⟨rfl, hb⟩; have HB := Lib.hid hb; clear hb HSH)
    go_ret
    exact ⟨rfl, HB.out⟩
  have hd0 : decide (a0 < 1) = false := decide_eq_false q0
  by_cases q1 : 1000 < a0
  focus
    have hd1 : decide (1000 < a0) = true := decide_eq_true q1
    clear q0 q1
    go_enter Try.func6, Try.ntmps6
    go_wp2_with (go_at_call 10; refine (HSH.out _).mono ?_; rintro e w1 ⟨rfl, hb⟩; have HB := Lib.hid hb; clear hb HSH)
    go_ret
    exact ⟨rfl, HB.out⟩
  have hd1 : decide (1000 < a0) = false := decide_eq_false q1
  by_cases q2 : a1 < 0
  focus
    have hd2 : decide (a1 < 0) = true := decide_eq_true q2
    clear q0 q1 q2
    go_enter Try.func6, Try.ntmps6
    go_wp2_with (go_at_call 10; refine (HSH.out _).mono ?_; rintro e w1 ⟨rfl, hb⟩; have HB := Lib.hid hb; clear hb HSH)
    go_ret
    exact ⟨rfl, HB.out⟩
  have hd2 : decide (a1 < 0) = false := decide_eq_false q2
  by_cases q3 : 12 < a1
  focus
    have hd3 : decide (12 < a1) = true := decide_eq_true q3
    clear q0 q1 q2 q3
    go_enter Try.func6, Try.ntmps6
    go_wp2_with (go_at_call 10; refine (HSH.out _).mono ?_; rintro e w1 ⟨rfl, hb⟩; have HB := Lib.hid hb; clear hb HSH)
    go_ret
    exact ⟨rfl, HB.out⟩
  have hd3 : decide (12 < a1) = false := decide_eq_false q3
  obtain ⟨s, rfl⟩ := Int.eq_ofNat_of_zero_le (show 0 ≤ a0 by omega)
  obtain ⟨n, rfl⟩ := Int.eq_ofNat_of_zero_le (show 0 ≤ a1 by omega)
  have hs1 : 1 ≤ s := by omega
  have hs2 : s ≤ 1000 := by omega
  have hn12 : n ≤ 12 := by omega
  clear q0 q1 q2 q3
  obtain ⟨r1, r2, hrf, hrm, hrk⟩ := many_cols hs1 hs2 hn12
  go_enter Try.func6, Try.ntmps6
  go_upto_region 4 with (go_at_call 10; refine (HSH.out _).mono ?_; rintro e w1 ⟨rfl, hb⟩; have HB := Lib.hid hb; clear hb HSH)
  clear hd0 hd1 hd2 hd3
  go_upto_region 5 with (refine Kd.R_lit (Kd.raw 34) (w0 := w1) w1.heap.size 48 rfl (N := 27) rfl (xs := [nv0 2 (.slice none 0 0)]) (inner := nv0 2 (.slice none 0 0)) (ok := fun _ => True) (okp := fun _ => True) (by kernel_rfl) ⟨rfl, fun j p hj => by (cases j with | zero => cases hj; exact ⟨rfl, rfl, nv0_one 2 (.slice none 0 0) rfl⟩ | succ j => simp at hj)⟩ (fun _ _ => trivial) trivial (Below.refl _ _) (Nat.le_refl _) (by simp) ?_; intro v1 w2 ho1 hb1 hg1 hat1; obtain ⟨O, cap, hv, hO1, hO2, -⟩ := Kd.R_form ho1 (by simp); subst hv; have HP := Aside0.mk (LmI.mk (n := 0) (k := 0) (s := (s : Int)) (v := .slice none 0 0) (Kd.R_lower ho1 HB.out.size) (Kd.R_nil _ _ _ _ _) (below_then HB.out HB.out.size hb1)); clear ho1 hb1 hat1 hg1 hO1 hO2 HB)
  have HP0 : Aside0 (∃ O cap v, Value.slice (some ⟨O, 0, none⟩) 1 cap = .slice (some ⟨O, 0, none⟩) 1 cap ∧ LmI w w2 O 0 0 cap v (s : Int)) := ⟨_, _, _, rfl, HP.out⟩
  go_wp2
  go_loopw [6, 7] (fun l i wr => ∃ q O cap : Nat, q ≤ n ∧ l = .slice (some ⟨O, 0, none⟩) (q + 1) cap ∧ i = .int .i64 (q : Int) ∧ Aside0 (∃ v, LmI w wr O q q cap v (s : Int))) (fun _ i _ => n - (intOf i).toNat)
  case atStart => exact ⟨0, _, _, Nat.zero_le _, rfl, rfl, ⟨_, HP.out⟩⟩
  case round =>
    obtain ⟨q, O, cap, hq, rfl, rfl, HR⟩ := hrel
    clear HP0 HP
    obtain ⟨v, hP⟩ := HR.out
    have HP := Lib.hid hP
    clear HR hP
    by_cases hlt : q < n
    · have hltz : (q : Int) < (n : Int) := by omega
      have hda : decide ((q : Int) < (n : Int)) = true := decide_eq_true hltz
      have hn0 : (0 : Int) < (q : Int) + 1 := by omega
      obtain ⟨y1, f1, lO, -⟩ := HP.out.at_
      have HU := Lib.hid (upK_next q)
      have hxl2 : (upK q).length ≤ 100 := by rw [upK_len]; omega
      have hdn : decide (q < n) = true := decide_eq_true hlt
      clear hltz
      go_wp2_with (first
        | (refine wpList_build rfl _ _ _ rfl _ #[(0, .agg (nvS (s : Int)).toArray)] (by kernel_rfl) (litS_build _ (s : Int)) ?_)
        | ((with_reducible refine gate_builtin (b := .append) (xs := #[.tmp 37, .tmp 40]) rfl ?_); at_builtin; refine Kd.R_append (Kd.int .i64) (w0 := w) w.heap.size rfl (.tmp 37) (.tmp 40) 33 3 (.int .i64 0) 8 rfl Try.underlying33 info3 rfl (by decide) (by omega) v (upK q) ((q : Int) + 1) [.int .i64 ((q : Int) + 1)] (fun _ => True) (fun _ => False) rfl rfl rfl (fun _ hk => hk.elim) (fun _ _ => trivial) HP.out.kids HP.out.b HP.out.b.size (by omega) ?_; intro v1 w3 ho1 hb1 hg1 hat1; rw [← HU.out] at ho1; obtain ⟨hS, y1, f1, lO⟩ := HP.out.put hg1 ho1 hb1; obtain ⟨E1, e1, hv1⟩ := Kd.R_slice ho1; rw [upK_len] at hv1; subst hv1; have HN := Aside0.mk hS; clear ho1 hb1 hg1 hat1 hS HP)
        | ((with_reducible refine gate_builtin (b := .append) (xs := #[.tmp 44, .tmp 48]) rfl ?_); at_builtin; refine Kd.R_append (Kd.raw 34) (w0 := w) w.heap.size rfl (.tmp 44) (.tmp 48) 22 48 (.agg zN) 288 rfl Try.underlying22 info48 rfl (by decide) (by omega) (.slice (some ⟨O, 0, none⟩) (q + 1) cap) (nv0 2 (.slice E1 (q + 1) e1) :: List.replicate q (nvS (s : Int))) (nvS (s : Int)) (nvS (s : Int)) (fun _ => True) (fun _ => False) rfl rfl ⟨rfl, rfl, nvS_one _⟩ (fun _ hk => hk.elim) (fun _ _ => trivial) HN.out.out HN.out.b HN.out.b.size (by rw [List.length_cons, List.length_replicate]; omega) ?_; intro v2 w4 ho2 hb2 hg2 hat2; obtain ⟨O1, cap1, hv2, hL⟩ := HN.out.grow hg2 ho2 hb2; subst hv2; have HM := Aside0.mk hL; clear ho2 hb2 hg2 hat2 hL HN))
      go_roundw
      case rel => exact ⟨q + 1, O1, cap1, by omega, rfl, by go_num, ⟨_, HM.out⟩⟩
      case measure => simp [intOf]; omega
    · have hqe : q = n := by omega
      subst hqe
      have hda : decide ((q : Int) < (q : Int)) = false := decide_eq_false (by omega)
      have hpg := HP.out.page
      have HC := Lib.hid (lanes_Cols.calls (some ⟨O, 0, none⟩) cap (pageS (s : Int) q) 0 7 r1 r2 wr hpg.1 hpg.2 hrf)
      rw [pageS_len] at HC
      have HB := Lib.hid HP.out.b
      have hp0 : 0 ≤ (s : Int) * (q : Int) := Int.mul_nonneg (by omega) (by omega)
      have hpe : (s : Int) * (q : Int) = ((s * q : Nat) : Int) := by rw [Int.natCast_mul]
      have hp1 : (s : Int) * (q : Int) ≤ 12000 := by have : s * q ≤ 1000 * 12 := Nat.mul_le_mul hs2 hn12; omega
      clear hpg HP hlt
      by_cases hmany : 10000 < s * q
      · obtain ⟨rfl, rfl⟩ := hrm hmany
        have hd5 : decide (10000 < (s : Int) * (q : Int)) = true := decide_eq_true (by omega)
        clear hrm hrk hrf hmany hpe
        go_wp2_with (go_at_call 12; refine HC.out.mono ?_; rintro e w5 ⟨v5, rfl, hr5, hb⟩; obtain ⟨A5, c5, hv5⟩ := Kd.R_slice hr5; rw [List.length_nil] at hv5; subst hv5; have HB5 := Lib.hid (below_then HB.out HB.out.size hb); clear hb HB HC hr5)
        go_ret
        exact ⟨rfl, HB5.out⟩
      · obtain ⟨hr1l, rfl⟩ := hrk (by omega)
        have hd5 : decide (10000 < (s : Int) * (q : Int)) = false := decide_eq_false (by omega)
        have hml7 : (s : Int) * (q : Int) < 7 → r1.length = 7 := fun h => by omega
        have hmlp : ¬ (s : Int) * (q : Int) < 7 → r1.length = s * q := fun h => by omega
        clear hrm hrk hrf hmany hpe hr1l
        by_cases h7 : (s : Int) * (q : Int) < 7
        · have hml' := hml7 h7
          clear hml7 hmlp
          go_wp2_with (go_at_call 12; refine HC.out.mono ?_; rintro e w5 ⟨v5, rfl, hr5, hb⟩; obtain ⟨A5, c5, hv5⟩ := Kd.R_slice hr5; rw [hml'] at hv5; subst hv5; have HB5 := Lib.hid (below_then HB.out HB.out.size hb); clear hb HB HC hr5)
          go_ret
          exact ⟨rfl, HB5.out⟩
        · have hml' := hmlp h7
          clear hml7 hmlp
          go_wp2_with (go_at_call 12; refine HC.out.mono ?_; rintro e w5 ⟨v5, rfl, hr5, hb⟩; obtain ⟨A5, c5, hv5⟩ := Kd.R_slice hr5; rw [hml'] at hv5; subst hv5; have HB5 := Lib.hid (below_then HB.out HB.out.size hb); clear hb HB HC hr5)
          go_ret
          exact ⟨rfl, HB5.out⟩
end Go.Proofs.Ytdmnaehgngpikaa.K
