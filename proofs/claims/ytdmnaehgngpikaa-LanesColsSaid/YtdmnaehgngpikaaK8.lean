-- PRINTED by print.py (a twelfth state) out of the translation. Not trusted: Lean checks it.
import Derived.Test.YtdmnaehgngpikaaK0
import Derived.Test.YtdmnaehgngpikaaK4
namespace Go.Proofs.Ytdmnaehgngpikaa.K
open Go.RowKit Go.Proofs.YtdmnaehgngpikaaW.PrintWords Go.Proofs.YtdmnaehgngpikaaW.PrintLast Go.Proofs.YtdmnaehgngpikaaW.PrintMore
attribute [local go_sem] max2_int min2_int max_two min_two max_three min_three max_four min_four   -- for this text's walks alone
set_option linter.unusedVariables false
set_option linter.unusedSimpArgs false
/-! ### purflingref06_Cols: function 14 -/
mutual
def purflingref06_Cols.l0 : Nat → List (S48) → Int → Int → List (S35) → Int → Option ((List (S35)) × Int)
 | 0, _, _, _, _, _ => none
 | k + 1, x0, x1, x2, x8, x9 => if 0 ≤ x1 then (if x1 < (x0.length : Int) then (if x9 < (((rd_T48 x0 x1).f1).length : Int) then (purflingref06_Cols.j1 k x0 x1 x2 x8 x9 (decide ((x8.length : Int) ≤ 10000))) else (purflingref06_Cols.j1 k x0 x1 x2 x8 x9 false)) else (none)) else (none)
def purflingref06_Cols.j1 : Nat → List (S48) → Int → Int → List (S35) → Int → Bool → Option ((List (S35)) × Int)
 | 0, _, _, _, _, _, _ => none
 | k + 1, x0, x1, x2, x8, x9, x26 => if x26 = true then (if 0 ≤ x1 then (if x1 < (x0.length : Int) then (if 0 ≤ x9 then (if x9 < (((rd_T48 x0 x1).f1).length : Int) then (if 0 ≤ (rd ((rd_T48 x0 x1).f1) x9) then (if (rd ((rd_T48 x0 x1).f1) x9) < (x0.length : Int) then (if ((rd_T48 x0 (rd ((rd_T48 x0 x1).f1) x9)).f0) = 5 then ((purflingref06_span.f x0 (rd ((rd_T48 x0 x1).f1) x9)).bind fun t176 => ((purflingref06_many.f k x8 (rd ((rd_T48 x0 x1).f1) x9) (-1) t176).bind fun t177 => (purflingref06_Cols.j2 k x0 x1 x2 t177 x9 (rd ((rd_T48 x0 x1).f1) x9)))) else (purflingref06_Cols.j2 k x0 x1 x2 x8 x9 (rd ((rd_T48 x0 x1).f1) x9))) else (none)) else (none)) else (none)) else (none)) else (none)) else (none)) else (if (x8.length : Int) > 10000 then (some (([] : List (S35)), 43)) else ((purflingref06_many.f k x8 (-1) (-1) (mx 0 (wrap64 (x2 - (x8.length : Int))))).bind fun t170 => (some (t170, 0))))
def purflingref06_Cols.j2 : Nat → List (S48) → Int → Int → List (S35) → Int → Int → Option ((List (S35)) × Int)
 | 0, _, _, _, _, _, _ => none
 | k + 1, x0, x1, x2, x8, x9, x10 => if 0 ≤ x10 then (if x10 < (x0.length : Int) then (if ((rd_T48 x0 x10).f0) = 4 then (purflingref06_Cols.l1 k x0 x1 x2 x8 x9 x10 false 0) else (purflingref06_Cols.l0 k x0 x1 x2 x8 (wrap64 (x9 + 1)))) else (none)) else (none)
def purflingref06_Cols.l1 : Nat → List (S48) → Int → Int → List (S35) → Int → Int → Bool → Int → Option ((List (S35)) × Int)
 | 0, _, _, _, _, _, _, _, _ => none
 | k + 1, x0, x1, x2, x8, x9, x10, x11, x12 => if 0 ≤ x10 then (if x10 < (x0.length : Int) then (if x12 < (((rd_T48 x0 x10).f1).length : Int) then (purflingref06_Cols.j4 k x0 x1 x2 x8 x9 x10 x11 x12 (decide ((x8.length : Int) ≤ 10000))) else (purflingref06_Cols.j4 k x0 x1 x2 x8 x9 x10 x11 x12 false)) else (none)) else (none)
def purflingref06_Cols.j4 : Nat → List (S48) → Int → Int → List (S35) → Int → Int → Bool → Int → Bool → Option ((List (S35)) × Int)
 | 0, _, _, _, _, _, _, _, _, _ => none
 | k + 1, x0, x1, x2, x8, x9, x10, x11, x12, x68 => if x68 = true then (if 0 ≤ x10 then (if x10 < (x0.length : Int) then (if 0 ≤ x12 then (if x12 < (((rd_T48 x0 x10).f1).length : Int) then (if 0 ≤ (rd ((rd_T48 x0 x10).f1) x12) then (if (rd ((rd_T48 x0 x10).f1) x12) < (x0.length : Int) then (if ((rd_T48 x0 (rd ((rd_T48 x0 x10).f1) x12)).f0) = 5 then ((purflingref06_span.f x0 (rd ((rd_T48 x0 x10).f1) x12)).bind fun t185 => ((purflingref06_many.f k x8 (rd ((rd_T48 x0 x10).f1) x12) x10 t185).bind fun t186 => (purflingref06_Cols.l1 k x0 x1 x2 t186 x9 x10 true (wrap64 (x12 + 1))))) else (purflingref06_Cols.l1 k x0 x1 x2 x8 x9 x10 x11 (wrap64 (x12 + 1)))) else (none)) else (none)) else (none)) else (none)) else (none)) else (none)) else (if x11 = true then (purflingref06_Cols.l0 k x0 x1 x2 x8 (wrap64 (x9 + 1))) else ((purflingref06_span.f x0 x10).bind fun t189 => ((purflingref06_many.f k x8 (-1) x10 t189).bind fun t190 => (purflingref06_Cols.l0 k x0 x1 x2 t190 (wrap64 (x9 + 1))))))
end
def purflingref06_Cols.f (k : Nat) (l0 : List (S48)) (a1 : Int) (a2 : Int) : Option ((List (S35)) × Int) := purflingref06_Cols.l0 k l0 a1 a2 ([] : List (S35)) 0
set_option maxHeartbeats 8000000 in
set_option maxRecDepth 100000 in
theorem purflingref06_Cols.calls (k : Nat) (A0 : Option Addr) (c0 : Nat) (l0 : List (S48)) (a1 : Int) (a2 : Int) (r1 : List (S35)) (r2 : Int) (w : World) (hr0 : Kd.C k48 w A0 l0.length l0) (hc0 : l0.length ≤ c0) (h : purflingref06_Cols.f k l0 a1 a2 = some (r1, r2)) :
 Calls Try.prog 14 #[.slice A0 l0.length c0, .int .i64 a1, .int .i64 a2] w fun e w' => ∃ v0_ : Value, e = .returned (.tuple #[v0_, .int .i64 r2]) ∧ Kd.R k35 35 w' w.heap.size (fun _ => True) v0_ r1 ∧ Below w.heap.size w w' := by
 have hu35 := Try.underlying35
 have HR0 := Aside0.mk hr0
 have HC0 := Aside0.mk hc0
 clear hr0 hc0
 have HB := Aside0.mk (Below.refl w.heap.size w)
 have H : (purflingref06_Cols.l0 k l0 a1 a2 ([] : List (S35)) 0) = some (r1, r2) := h
 clear h
 have H' := Aside0.mk H
 clear H
 go_enter Try.func14, Try.ntmps14
 go_wp2
 go_loopg [8, 9] k (fun kq v8 v9 w' => ∃ (x8_1 : List (S35)) (x9_1 : Int), v9 = .int .i64 x9_1 ∧ Aside0 (purflingref06_Cols.l0 kq l0 a1 a2 x8_1 x9_1 = some (r1, r2)) ∧ Aside0 (kq ≤ k) ∧ Aside0 (Kd.R k35 35 w' w.heap.size (fun _ => True) v8 x8_1) ∧ Aside0 (Below w.heap.size w w'))
 case atStart => exact ⟨(([] : List (S35))), (0), (by first | rfl | (simp; done) | (simp [*]; done)), H', ⟨Nat.le_refl _⟩, ⟨by first | exact Kd.R_nil _ _ _ _ _ | exact Kd.N_nil _ _ _ _ _ | exact Kd.V_nil _ _ _ _ _ | exact Kd.Q_nil _ _ _ _ _ | exact Kd.S_nil _ _ _ _ _⟩, ⟨by repeat (first | exact HB.out | apply below_alloc | apply pw_below_drewN | apply below_drew1)⟩⟩
 case round =>
  clear H'
  try clear c1
  try clear p2
  obtain ⟨x8_1, x9_1, rfl, HA, HK1, HO_8, HB⟩ := hrel
  cases gk with
  | zero => exact absurd HA.out (by simp [purflingref06_Cols.l0])
  | succ k1 =>
   have H := HA.out
   clear HA
   simp only [purflingref06_Cols.l0] at H
   have HC4 := Aside0.mk H
   clear H
   go_upto_region 3 with (fail)
   go_cut [26] (fun v26 wc => ∃ (kq : Nat) (x26_3 : Bool), v26 = .bool x26_3 ∧ Aside0 (purflingref06_Cols.j1 kq l0 a1 a2 x8_1 x9_1 x26_3 = some (r1, r2)) ∧ Aside0 (kq ≤ k1) ∧ Aside0 (Kd.R k35 35 wc w.heap.size (fun _ => True) u8 x8_1) ∧ Aside0 (Below w.heap.size w wc))
   case first =>
    have H := HC4.out
    clear HC4
    by_cases c5 : 0 ≤ a1
    · rw [if_pos c5] at H
      have c5b0 : decide (0 ≤ a1) = true := decide_eq_true c5
      clear c5
      (first | rw [c5b0] | (simp only [i64_w, i32_w]; rw [c5b0]) | skip)
      by_cases c6 : a1 < (l0.length : Int)
      · rw [if_pos c6] at H
        have c6b0 : decide (a1 < (l0.length : Int)) = true := decide_eq_true c6
        clear c6
        by_cases c7 : x9_1 < (((rd_T48 l0 a1).f1).length : Int)
        · rw [if_pos c7] at H
          have c7b0 : decide (x9_1 < (((rd_T48 l0 a1).f1).length : Int)) = true := decide_eq_true c7
          clear c7
          have H' := Aside0.mk H
          clear H
          have p169 : 0 ≤ (a1 : Int) := of_decide_eq_true (by first | (with_reducible assumption) | assumption)
          have q169 : a1 < (l0.length : Int) := of_decide_eq_true (by first | (with_reducible assumption) | assumption)
          obtain ⟨ad169, A169_1, c169_1, A169_31, c169_31, e169, hx169_0, hx169_1, -, -, -, -, -, -, -, -, -, -, -, -, -, -, -, -, -, -, -, -, hx169_22, -, -, -, -, -, -, -, -, -, -, -, hl169_1, hi169_1, hl169_31, hi169_31⟩ := at_T48 HR0.out a1 p169 q169
          cases e169
          replace hx169_0 := (HB.out.cell (World.block_lt_of_cell? w _ hx169_0)).trans hx169_0
          replace hx169_1 := (HB.out.cell (World.block_lt_of_cell? w _ hx169_1)).trans hx169_1
          replace hx169_22 := (HB.out.cell (World.block_lt_of_cell? w _ hx169_22)).trans hx169_22
          have HR169_1 := Aside0.mk hi169_1
          have HC169_1 := Aside0.mk hl169_1
          clear hi169_1 hl169_1
          have HR169_31 := Aside0.mk hi169_31
          have HC169_31 := Aside0.mk hl169_31
          clear hi169_31 hl169_31
          replace p169 := eq_true p169
          replace q169 := eq_true q169
          obtain ⟨Ao8, co8, eo8⟩ := Kd.R_slice HO_8.out
          subst eo8
          go_wp2
          go_meet
          case rel => exact ⟨_, (decide ((x8_1.length : Int) ≤ 10000)), (by first | rfl | (simp; done) | (simp [*]; done)), H', ⟨by have := HK1.out; first | omega | exact Nat.le_refl _⟩, ⟨by (with_reducible repeat (first | apply Kd.R_alloc | apply Kd.R_drewN | apply Kd.R_drew)); exact HO_8.out⟩, ⟨by repeat (first | exact HB.out | apply below_alloc | apply pw_below_drewN | apply below_drew1)⟩⟩
        · rw [if_neg c7] at H
          have c7b0 : decide (x9_1 < (((rd_T48 l0 a1).f1).length : Int)) = false := decide_eq_false c7
          clear c7
          have H' := Aside0.mk H
          clear H
          have p169 : 0 ≤ (a1 : Int) := of_decide_eq_true (by first | (with_reducible assumption) | assumption)
          have q169 : a1 < (l0.length : Int) := of_decide_eq_true (by first | (with_reducible assumption) | assumption)
          obtain ⟨ad169, A169_1, c169_1, A169_31, c169_31, e169, hx169_0, hx169_1, -, -, -, -, -, -, -, -, -, -, -, -, -, -, -, -, -, -, -, -, hx169_22, -, -, -, -, -, -, -, -, -, -, -, hl169_1, hi169_1, hl169_31, hi169_31⟩ := at_T48 HR0.out a1 p169 q169
          cases e169
          replace hx169_0 := (HB.out.cell (World.block_lt_of_cell? w _ hx169_0)).trans hx169_0
          replace hx169_1 := (HB.out.cell (World.block_lt_of_cell? w _ hx169_1)).trans hx169_1
          replace hx169_22 := (HB.out.cell (World.block_lt_of_cell? w _ hx169_22)).trans hx169_22
          have HR169_1 := Aside0.mk hi169_1
          have HC169_1 := Aside0.mk hl169_1
          clear hi169_1 hl169_1
          have HR169_31 := Aside0.mk hi169_31
          have HC169_31 := Aside0.mk hl169_31
          clear hi169_31 hl169_31
          replace p169 := eq_true p169
          replace q169 := eq_true q169
          go_wp2
          go_meet
          case rel => exact ⟨_, (false), (by first | rfl | (simp; done) | (simp [*]; done)), H', ⟨by have := HK1.out; first | omega | exact Nat.le_refl _⟩, ⟨by (with_reducible repeat (first | apply Kd.R_alloc | apply Kd.R_drewN | apply Kd.R_drew)); exact HO_8.out⟩, ⟨by repeat (first | exact HB.out | apply below_alloc | apply pw_below_drewN | apply below_drew1)⟩⟩
      · rw [if_neg c6] at H
        exact absurd H (by simp)
    · rw [if_neg c5] at H
      exact absurd H (by simp)
   case rest =>
    clear HC4
    try clear c1
    try clear p1
    try clear q1
    try clear hx1
    try clear p2
    try clear c5
    try clear c5b0
    try clear c6
    try clear c6b0
    try clear c7
    try clear c7b0
    try clear hx169_0
    try clear hx169_1
    try clear hx169_22
    try clear p169
    try clear p2
    try clear q169
    obtain ⟨kq, x26_3, rfl, HA, HJ3, HO_8, HB⟩ := hcut
    cases kq with
    | zero => exact absurd HA.out (by simp [purflingref06_Cols.j1])
    | succ kj3 =>
     have H := HA.out
     clear HA
     simp only [purflingref06_Cols.j1] at H
     by_cases c9 : x26_3 = true
     · subst c9
       have H1 : (if 0 ≤ a1 then (if a1 < (l0.length : Int) then (if 0 ≤ x9_1 then (if x9_1 < (((rd_T48 l0 a1).f1).length : Int) then (if 0 ≤ (rd ((rd_T48 l0 a1).f1) x9_1) then (if (rd ((rd_T48 l0 a1).f1) x9_1) < (l0.length : Int) then (if ((rd_T48 l0 (rd ((rd_T48 l0 a1).f1) x9_1)).f0) = 5 then ((purflingref06_span.f l0 (rd ((rd_T48 l0 a1).f1) x9_1)).bind fun t176 => ((purflingref06_many.f kj3 x8_1 (rd ((rd_T48 l0 a1).f1) x9_1) (-1) t176).bind fun t177 => (purflingref06_Cols.j2 kj3 l0 a1 a2 t177 x9_1 (rd ((rd_T48 l0 a1).f1) x9_1)))) else (purflingref06_Cols.j2 kj3 l0 a1 a2 x8_1 x9_1 (rd ((rd_T48 l0 a1).f1) x9_1))) else (none)) else (none)) else (none)) else (none)) else (none)) else (none)) = some (r1, r2) := by rw [if_pos rfl] at H; exact H
       clear H
       have H := H1
       clear H1
       by_cases c10 : 0 ≤ a1
       · rw [if_pos c10] at H
         have c10b0 : decide (0 ≤ a1) = true := decide_eq_true c10
         clear c10
         by_cases c11 : a1 < (l0.length : Int)
         · rw [if_pos c11] at H
           have c11b0 : decide (a1 < (l0.length : Int)) = true := decide_eq_true c11
           clear c11
           by_cases c12 : 0 ≤ x9_1
           · rw [if_pos c12] at H
             have c12b0 : decide (0 ≤ x9_1) = true := decide_eq_true c12
             clear c12
             by_cases c13 : x9_1 < (((rd_T48 l0 a1).f1).length : Int)
             · rw [if_pos c13] at H
               have c13b0 : decide (x9_1 < (((rd_T48 l0 a1).f1).length : Int)) = true := decide_eq_true c13
               clear c13
               by_cases c14 : 0 ≤ (rd ((rd_T48 l0 a1).f1) x9_1)
               · rw [if_pos c14] at H
                 have c14b0 : decide (0 ≤ (rd ((rd_T48 l0 a1).f1) x9_1)) = true := decide_eq_true c14
                 clear c14
                 by_cases c15 : (rd ((rd_T48 l0 a1).f1) x9_1) < (l0.length : Int)
                 · rw [if_pos c15] at H
                   have c15b0 : decide ((rd ((rd_T48 l0 a1).f1) x9_1) < (l0.length : Int)) = true := decide_eq_true c15
                   clear c15
                   have HC16 := Aside0.mk H
                   clear H
                   have p173 : 0 ≤ (a1 : Int) := of_decide_eq_true (by first | (with_reducible assumption) | assumption)
                   have q173 : a1 < (l0.length : Int) := of_decide_eq_true (by first | (with_reducible assumption) | assumption)
                   obtain ⟨ad173, A173_1, c173_1, A173_31, c173_31, e173, hx173_0, hx173_1, -, -, -, -, -, -, -, -, -, -, -, -, -, -, -, -, -, -, -, -, hx173_22, -, -, -, -, -, -, -, -, -, -, -, hl173_1, hi173_1, -, -⟩ := at_T48 HR0.out a1 p173 q173
                   cases e173
                   replace hx173_0 := (HB.out.cell (World.block_lt_of_cell? w _ hx173_0)).trans hx173_0
                   replace hx173_1 := (HB.out.cell (World.block_lt_of_cell? w _ hx173_1)).trans hx173_1
                   replace hx173_22 := (HB.out.cell (World.block_lt_of_cell? w _ hx173_22)).trans hx173_22
                   have HR173_1 := Aside0.mk hi173_1
                   have HC173_1 := Aside0.mk hl173_1
                   clear hi173_1 hl173_1
                   replace p173 := eq_true p173
                   replace q173 := eq_true q173
                   have p174 : 0 ≤ (x9_1 : Int) := of_decide_eq_true (by first | (with_reducible assumption) | assumption)
                   have q174 : x9_1 < (((rd_T48 l0 a1).f1).length : Int) := of_decide_eq_true (by first | (with_reducible assumption) | assumption)
                   obtain ⟨ad174, e174, hx174_0⟩ := Kd.at_int HR173_1.out x9_1 p174 q174
                   cases e174
                   replace hx174_0 := (HB.out.cell (World.block_lt_of_cell? w _ hx174_0)).trans hx174_0
                   replace p174 := eq_true p174
                   replace q174 := eq_true q174
                   have p175 : 0 ≤ ((rd ((rd_T48 l0 a1).f1) x9_1) : Int) := of_decide_eq_true (by first | (with_reducible assumption) | assumption)
                   have q175 : (rd ((rd_T48 l0 a1).f1) x9_1) < (l0.length : Int) := of_decide_eq_true (by first | (with_reducible assumption) | assumption)
                   obtain ⟨ad175, A175_1, c175_1, A175_31, c175_31, e175, hx175_0, hx175_1, -, -, -, -, -, -, -, -, -, -, -, -, -, -, -, -, -, -, -, -, hx175_22, -, -, -, -, -, -, -, -, -, -, -, hl175_1, hi175_1, -, -⟩ := at_T48 HR0.out (rd ((rd_T48 l0 a1).f1) x9_1) p175 q175
                   obtain rfl : ad173 = ad175 := (by injection e175)
                   replace hx175_0 := (HB.out.cell (World.block_lt_of_cell? w _ hx175_0)).trans hx175_0
                   replace hx175_1 := (HB.out.cell (World.block_lt_of_cell? w _ hx175_1)).trans hx175_1
                   replace hx175_22 := (HB.out.cell (World.block_lt_of_cell? w _ hx175_22)).trans hx175_22
                   have HR175_1 := Aside0.mk hi175_1
                   have HC175_1 := Aside0.mk hl175_1
                   clear hi175_1 hl175_1
                   replace p175 := eq_true p175
                   replace q175 := eq_true q175
                   go_upto_if 42 with (fail)
                   go_cut [8] (fun v8 wc => ∃ (kq : Nat) (x8_15 : List (S35)), Aside0 (purflingref06_Cols.j2 kq l0 a1 a2 x8_15 x9_1 (rd ((rd_T48 l0 a1).f1) x9_1) = some (r1, r2)) ∧ Aside0 (kq ≤ kj3) ∧ Aside0 (Kd.R k35 35 wc w.heap.size (fun _ => True) v8 x8_15) ∧ Aside0 (Below w.heap.size w wc))
                   case first =>
                    have H := HC16.out
                    clear HC16
                    by_cases c17 : ((rd_T48 l0 (rd ((rd_T48 l0 a1).f1) x9_1)).f0) = 5
                    · rw [if_pos c17] at H
                      have c17b0 : (((rd_T48 l0 (rd ((rd_T48 l0 a1).f1) x9_1)).f0) == 5) = true := beq_iff_eq.mpr c17
                      have c17b1 : (((rd_T48 l0 (rd ((rd_T48 l0 a1).f1) x9_1)).f0) != 5) = false := bne_eq_false_iff_eq.mpr c17
                      clear c17
                      (first | rw [c17b0] | (simp only [i64_w, i32_w]; rw [c17b0]) | skip)
                      replace H := Option.bind_eq_some_iff.mp H
                      obtain ⟨t176, A180, H⟩ := H
                      replace H : ((purflingref06_many.f kj3 x8_1 (rd ((rd_T48 l0 a1).f1) x9_1) (-1) t176).bind fun t177 => (purflingref06_Cols.j2 kj3 l0 a1 a2 t177 x9_1 (rd ((rd_T48 l0 a1).f1) x9_1))) = some (r1, r2) := H
                      have A18 := Aside0.mk A180
                      clear A180
                      replace H := Option.bind_eq_some_iff.mp H
                      obtain ⟨t177, A190, H⟩ := H
                      replace H : (purflingref06_Cols.j2 kj3 l0 a1 a2 t177 x9_1 (rd ((rd_T48 l0 a1).f1) x9_1)) = some (r1, r2) := H
                      have A19 := Aside0.mk A190
                      clear A190
                      have H' := Aside0.mk H
                      clear H
                      go_wp2_with (first | ((with_reducible refine gate_callee (f := 28) rfl ?_); refine goesL_ (some 48) rfl rfl Try.func28 (by kernel_rfl) rfl #[.slice (some ad173) l0.length c0, .int .i64 (rd ((rd_T48 l0 a1).f1) x9_1)] rfl (by (try simp only [List.map_toArray, List.map_cons, List.map_nil]); first | done | rfl) ?_; (with_reducible refine (purflingref06_span.calls _ _ l0 (rd ((rd_T48 l0 a1).f1) x9_1) t176 _ ?side1 ?side2 A18.out).mono ?_); (case side1 => repeat (first | exact (Kd.C_below HR0.out HB.out) | (with_reducible refine Kd.C_alloc ?_ _) | (with_reducible refine Kd.C_drewN ?_ _) | (with_reducible refine Kd.C_drew ?_))); (case side2 => exact HC0.out); rintro e w20 ⟨rfl, hb⟩; refine ⟨_, rfl, ?_⟩; have n0_ := Aside0.mk (Kd.R_below (by (with_reducible repeat (first | apply Kd.R_alloc | apply Kd.R_drewN | apply Kd.R_drew)); exact HO_8.out) hb); have n1_ := Aside0.mk (below_step (by repeat (first | exact HB.out | apply below_alloc | apply pw_below_drewN | apply below_drew1)) hb); clear HO_8; clear HB; have HO_8 := n0_; have HB := n1_; clear n0_ n1_; (try clear hb); (try clear hb2); (try clear hk); (try clear hi); obtain ⟨Ao21, co21, eo21⟩ := Kd.R_slice HO_8.out; subst eo21) | ((with_reducible refine gate_callee (f := 27) rfl ?_); refine goesL_ (some 49) rfl rfl Try.func27 (by kernel_rfl) rfl #[.slice Ao21 x8_1.length co21, .agg #[.int .i64 (rd ((rd_T48 l0 a1).f1) x9_1), .int .i64 (-1)], .int .i64 t176] rfl (by (try simp only [List.map_toArray, List.map_cons, List.map_nil]); first | done | rfl) ?_; (with_reducible refine (purflingref06_many.calls kj3 (fun k_ => some k_ = (.slice Ao21 x8_1.length co21 : Value).ownBlock) (.slice Ao21 x8_1.length co21) x8_1 (rd ((rd_T48 l0 a1).f1) x9_1) (-1) t176 t177 w _ ?side1 ?side2 A19.out).mono ?_); (case side1 => repeat (first | exact HB.out | apply below_alloc | apply pw_below_drewN | apply below_drew1)); (case side2 => exact Kd.R_tight rfl HO_8.out); rintro e w22 ⟨v178, rfl, ho0, hb, hkp⟩; refine ⟨_, rfl, ?_⟩; have n0_ := Aside0.mk (Kd.R_mono (ok' := fun k_ => True) ho0 (fun k_ hk_ => trivial)); have n1_ := Aside0.mk (hb); clear HB; clear HO_8; have HO179 := n0_; have HB := n1_; clear n0_ n1_; (try clear hb); (try clear hkp); (try clear ho0)))
                      go_meet
                      case rel => exact ⟨_, (t177), H', ⟨by have := HK1.out; have := HJ3.out; first | omega | exact Nat.le_refl _⟩, ⟨by (with_reducible repeat (first | apply Kd.R_alloc | apply Kd.R_drewN | apply Kd.R_drew)); exact HO179.out⟩, ⟨by repeat (first | exact HB.out | apply below_alloc | apply pw_below_drewN | apply below_drew1)⟩⟩
                    · rw [if_neg c17] at H
                      have c17b0 : (((rd_T48 l0 (rd ((rd_T48 l0 a1).f1) x9_1)).f0) == 5) = false := beq_eq_false_iff_ne.mpr c17
                      have c17b1 : (((rd_T48 l0 (rd ((rd_T48 l0 a1).f1) x9_1)).f0) != 5) = true := bne_iff_ne.mpr c17
                      (first | rw [c17b0] | (simp only [i64_w, i32_w]; rw [c17b0]) | skip)
                      have H' := Aside0.mk H
                      clear H
                      go_wp2
                      go_meet
                      case rel => exact ⟨_, (x8_1), H', ⟨by have := HK1.out; have := HJ3.out; first | omega | exact Nat.le_refl _⟩, ⟨by (with_reducible repeat (first | apply Kd.R_alloc | apply Kd.R_drewN | apply Kd.R_drew)); exact HO_8.out⟩, ⟨by repeat (first | exact HB.out | apply below_alloc | apply pw_below_drewN | apply below_drew1)⟩⟩
                   case rest =>
                    clear HC16
                    try clear c1
                    try clear p1
                    try clear q1
                    try clear hx1
                    try clear c2
                    try clear p2
                    try clear c5
                    try clear c5b0
                    try clear c6
                    try clear c6b0
                    try clear c7
                    try clear c7b0
                    try clear c9
                    try clear c10
                    try clear c10b0
                    try clear c11
                    try clear c11b0
                    try clear c12
                    try clear c12b0
                    try clear c13
                    try clear c13b0
                    try clear c14
                    try clear c14b0
                    try clear c15
                    try clear c15b0
                    try clear c16
                    try clear p16
                    try clear q16
                    try clear hx16
                    try clear c17
                    try clear c17b0
                    try clear c17b1
                    try clear p17
                    try clear q17
                    try clear hx17
                    try clear hx169_0
                    try clear hx169_1
                    try clear hx169_22
                    try clear hx173_0
                    try clear hx173_1
                    try clear hx173_22
                    try clear hx174_0
                    try clear hx175_0
                    try clear hx175_1
                    try clear hx175_22
                    try clear p1
                    try clear p169
                    try clear p173
                    try clear p174
                    try clear p175
                    try clear p2
                    try clear q1
                    try clear q169
                    try clear q173
                    try clear q174
                    try clear q175
                    obtain ⟨kq, x8_15, HA, HJ15, HO_8, HB⟩ := hcut
                    cases kq with
                    | zero => exact absurd HA.out (by simp [purflingref06_Cols.j2])
                    | succ kj15 =>
                     have H := HA.out
                     clear HA
                     simp only [purflingref06_Cols.j2] at H
                     by_cases c23 : 0 ≤ (rd ((rd_T48 l0 a1).f1) x9_1)
                     · rw [if_pos c23] at H
                       have c23b0 : decide (0 ≤ (rd ((rd_T48 l0 a1).f1) x9_1)) = true := decide_eq_true c23
                       clear c23
                       by_cases c24 : (rd ((rd_T48 l0 a1).f1) x9_1) < (l0.length : Int)
                       · rw [if_pos c24] at H
                         have c24b0 : decide ((rd ((rd_T48 l0 a1).f1) x9_1) < (l0.length : Int)) = true := decide_eq_true c24
                         clear c24
                         by_cases c25 : ((rd_T48 l0 (rd ((rd_T48 l0 a1).f1) x9_1)).f0) = 4
                         · rw [if_pos c25] at H
                           have c25b0 : (((rd_T48 l0 (rd ((rd_T48 l0 a1).f1) x9_1)).f0) == 4) = true := beq_iff_eq.mpr c25
                           have c25b1 : (((rd_T48 l0 (rd ((rd_T48 l0 a1).f1) x9_1)).f0) != 4) = false := bne_eq_false_iff_eq.mpr c25
                           clear c25
                           have H' := Aside0.mk H
                           clear H
                           have p180 : 0 ≤ ((rd ((rd_T48 l0 a1).f1) x9_1) : Int) := of_decide_eq_true (by first | (with_reducible assumption) | assumption)
                           have q180 : (rd ((rd_T48 l0 a1).f1) x9_1) < (l0.length : Int) := of_decide_eq_true (by first | (with_reducible assumption) | assumption)
                           obtain ⟨ad180, A180_1, c180_1, A180_31, c180_31, e180, hx180_0, hx180_1, -, -, -, -, -, -, -, -, -, -, -, -, -, -, -, -, -, -, -, -, hx180_22, -, -, -, -, -, -, -, -, -, -, -, hl180_1, hi180_1, hl180_31, hi180_31⟩ := at_T48 HR0.out (rd ((rd_T48 l0 a1).f1) x9_1) p180 q180
                           obtain rfl : ad173 = ad180 := (by injection e180)
                           replace hx180_0 := (HB.out.cell (World.block_lt_of_cell? w _ hx180_0)).trans hx180_0
                           replace hx180_1 := (HB.out.cell (World.block_lt_of_cell? w _ hx180_1)).trans hx180_1
                           replace hx180_22 := (HB.out.cell (World.block_lt_of_cell? w _ hx180_22)).trans hx180_22
                           have HR180_1 := Aside0.mk hi180_1
                           have HC180_1 := Aside0.mk hl180_1
                           clear hi180_1 hl180_1
                           have HR180_31 := Aside0.mk hi180_31
                           have HC180_31 := Aside0.mk hl180_31
                           clear hi180_31 hl180_31
                           replace p180 := eq_true p180
                           replace q180 := eq_true q180
                           go_wp2
                           go_loopg [8, 11, 12] kj15 (fun kq v8 v11 v12 w' => ∃ (x8_4 : List (S35)) (x11_4 : Bool) (x12_4 : Int), v11 = .bool x11_4 ∧ v12 = .int .i64 x12_4 ∧ Aside0 (purflingref06_Cols.l1 kq l0 a1 a2 x8_4 x9_1 (rd ((rd_T48 l0 a1).f1) x9_1) x11_4 x12_4 = some (r1, r2)) ∧ Aside0 (kq ≤ kj15) ∧ Aside0 (Kd.R k35 35 w' w.heap.size (fun _ => True) v8 x8_4) ∧ Aside0 (Below w.heap.size w w'))
                           case atStart => exact ⟨(x8_15), (false), (0), (by first | rfl | (simp; done) | (simp [*]; done)), (by first | rfl | (simp; done) | (simp [*]; done)), H', ⟨Nat.le_refl _⟩, ⟨by (with_reducible repeat (first | apply Kd.R_alloc | apply Kd.R_drewN | apply Kd.R_drew)); exact HO_8.out⟩, ⟨by repeat (first | exact HB.out | apply below_alloc | apply pw_below_drewN | apply below_drew1)⟩⟩
                           case round =>
                            clear H'
                            try clear c1
                            try clear p1
                            try clear q1
                            try clear hx1
                            try clear c2
                            try clear p2
                            try clear c5
                            try clear c5b0
                            try clear c6
                            try clear c6b0
                            try clear c7
                            try clear c7b0
                            try clear c9
                            try clear c10
                            try clear c10b0
                            try clear c11
                            try clear c11b0
                            try clear c12
                            try clear c12b0
                            try clear c13
                            try clear c13b0
                            try clear c14
                            try clear c14b0
                            try clear c15
                            try clear c15b0
                            try clear c16
                            try clear p16
                            try clear q16
                            try clear hx16
                            try clear c17
                            try clear c17b0
                            try clear c17b1
                            try clear p17
                            try clear q17
                            try clear hx17
                            try clear c18
                            try clear p18
                            try clear q18
                            try clear hx18
                            try clear c23
                            try clear c23b0
                            try clear c24
                            try clear c24b0
                            try clear c25
                            try clear c25b0
                            try clear c25b1
                            try clear hx169_0
                            try clear hx169_1
                            try clear hx169_22
                            try clear hx173_0
                            try clear hx173_1
                            try clear hx173_22
                            try clear hx174_0
                            try clear hx175_0
                            try clear hx175_1
                            try clear hx175_22
                            try clear hx180_0
                            try clear hx180_1
                            try clear hx180_22
                            try clear p1
                            try clear p16
                            try clear p169
                            try clear p17
                            try clear p173
                            try clear p174
                            try clear p175
                            try clear p180
                            try clear p2
                            try clear q1
                            try clear q16
                            try clear q169
                            try clear q17
                            try clear q173
                            try clear q174
                            try clear q175
                            try clear q180
                            obtain ⟨x8_4, x11_4, x12_4, rfl, rfl, HA, HK4, HO_8, HB⟩ := hrel
                            cases gk with
                            | zero => exact absurd HA.out (by simp [purflingref06_Cols.l1])
                            | succ k4 =>
                             have H := HA.out
                             clear HA
                             simp only [purflingref06_Cols.l1] at H
                             have HC26 := Aside0.mk H
                             clear H
                             go_upto_region 11 with (fail)
                             go_cut [68] (fun v68 wc => ∃ (kq : Nat) (x68_25 : Bool), v68 = .bool x68_25 ∧ Aside0 (purflingref06_Cols.j4 kq l0 a1 a2 x8_4 x9_1 (rd ((rd_T48 l0 a1).f1) x9_1) x11_4 x12_4 x68_25 = some (r1, r2)) ∧ Aside0 (kq ≤ k4) ∧ Aside0 (Kd.R k35 35 wc w.heap.size (fun _ => True) u8 x8_4) ∧ Aside0 (Below w.heap.size w wc))
                             case first =>
                              have H := HC26.out
                              clear HC26
                              by_cases c27 : 0 ≤ (rd ((rd_T48 l0 a1).f1) x9_1)
                              · rw [if_pos c27] at H
                                have c27b0 : decide (0 ≤ (rd ((rd_T48 l0 a1).f1) x9_1)) = true := decide_eq_true c27
                                clear c27
                                (first | rw [c27b0] | (simp only [i64_w, i32_w]; rw [c27b0]) | skip)
                                by_cases c28 : (rd ((rd_T48 l0 a1).f1) x9_1) < (l0.length : Int)
                                · rw [if_pos c28] at H
                                  have c28b0 : decide ((rd ((rd_T48 l0 a1).f1) x9_1) < (l0.length : Int)) = true := decide_eq_true c28
                                  clear c28
                                  by_cases c29 : x12_4 < (((rd_T48 l0 (rd ((rd_T48 l0 a1).f1) x9_1)).f1).length : Int)
                                  · rw [if_pos c29] at H
                                    have c29b0 : decide (x12_4 < (((rd_T48 l0 (rd ((rd_T48 l0 a1).f1) x9_1)).f1).length : Int)) = true := decide_eq_true c29
                                    clear c29
                                    have H' := Aside0.mk H
                                    clear H
                                    have p181 : 0 ≤ ((rd ((rd_T48 l0 a1).f1) x9_1) : Int) := of_decide_eq_true (by first | (with_reducible assumption) | assumption)
                                    have q181 : (rd ((rd_T48 l0 a1).f1) x9_1) < (l0.length : Int) := of_decide_eq_true (by first | (with_reducible assumption) | assumption)
                                    obtain ⟨ad181, A181_1, c181_1, A181_31, c181_31, e181, hx181_0, hx181_1, -, -, -, -, -, -, -, -, -, -, -, -, -, -, -, -, -, -, -, -, hx181_22, -, -, -, -, -, -, -, -, -, -, -, hl181_1, hi181_1, hl181_31, hi181_31⟩ := at_T48 HR0.out (rd ((rd_T48 l0 a1).f1) x9_1) p181 q181
                                    obtain rfl : ad173 = ad181 := (by injection e181)
                                    replace hx181_0 := (HB.out.cell (World.block_lt_of_cell? w _ hx181_0)).trans hx181_0
                                    replace hx181_1 := (HB.out.cell (World.block_lt_of_cell? w _ hx181_1)).trans hx181_1
                                    replace hx181_22 := (HB.out.cell (World.block_lt_of_cell? w _ hx181_22)).trans hx181_22
                                    have HR181_1 := Aside0.mk hi181_1
                                    have HC181_1 := Aside0.mk hl181_1
                                    clear hi181_1 hl181_1
                                    have HR181_31 := Aside0.mk hi181_31
                                    have HC181_31 := Aside0.mk hl181_31
                                    clear hi181_31 hl181_31
                                    replace p181 := eq_true p181
                                    replace q181 := eq_true q181
                                    obtain ⟨Ao30, co30, eo30⟩ := Kd.R_slice HO_8.out
                                    subst eo30
                                    go_wp2
                                    go_meet
                                    case rel => exact ⟨_, (decide ((x8_4.length : Int) ≤ 10000)), (by first | rfl | (simp; done) | (simp [*]; done)), H', ⟨by have := HK1.out; have := HJ3.out; have := HJ15.out; have := HK4.out; first | omega | exact Nat.le_refl _⟩, ⟨by (with_reducible repeat (first | apply Kd.R_alloc | apply Kd.R_drewN | apply Kd.R_drew)); exact HO_8.out⟩, ⟨by repeat (first | exact HB.out | apply below_alloc | apply pw_below_drewN | apply below_drew1)⟩⟩
                                  · rw [if_neg c29] at H
                                    have c29b0 : decide (x12_4 < (((rd_T48 l0 (rd ((rd_T48 l0 a1).f1) x9_1)).f1).length : Int)) = false := decide_eq_false c29
                                    clear c29
                                    have H' := Aside0.mk H
                                    clear H
                                    have p181 : 0 ≤ ((rd ((rd_T48 l0 a1).f1) x9_1) : Int) := of_decide_eq_true (by first | (with_reducible assumption) | assumption)
                                    have q181 : (rd ((rd_T48 l0 a1).f1) x9_1) < (l0.length : Int) := of_decide_eq_true (by first | (with_reducible assumption) | assumption)
                                    obtain ⟨ad181, A181_1, c181_1, A181_31, c181_31, e181, hx181_0, hx181_1, -, -, -, -, -, -, -, -, -, -, -, -, -, -, -, -, -, -, -, -, hx181_22, -, -, -, -, -, -, -, -, -, -, -, hl181_1, hi181_1, hl181_31, hi181_31⟩ := at_T48 HR0.out (rd ((rd_T48 l0 a1).f1) x9_1) p181 q181
                                    obtain rfl : ad173 = ad181 := (by injection e181)
                                    replace hx181_0 := (HB.out.cell (World.block_lt_of_cell? w _ hx181_0)).trans hx181_0
                                    replace hx181_1 := (HB.out.cell (World.block_lt_of_cell? w _ hx181_1)).trans hx181_1
                                    replace hx181_22 := (HB.out.cell (World.block_lt_of_cell? w _ hx181_22)).trans hx181_22
                                    have HR181_1 := Aside0.mk hi181_1
                                    have HC181_1 := Aside0.mk hl181_1
                                    clear hi181_1 hl181_1
                                    have HR181_31 := Aside0.mk hi181_31
                                    have HC181_31 := Aside0.mk hl181_31
                                    clear hi181_31 hl181_31
                                    replace p181 := eq_true p181
                                    replace q181 := eq_true q181
                                    go_wp2
                                    go_meet
                                    case rel => exact ⟨_, (false), (by first | rfl | (simp; done) | (simp [*]; done)), H', ⟨by have := HK1.out; have := HJ3.out; have := HJ15.out; have := HK4.out; first | omega | exact Nat.le_refl _⟩, ⟨by (with_reducible repeat (first | apply Kd.R_alloc | apply Kd.R_drewN | apply Kd.R_drew)); exact HO_8.out⟩, ⟨by repeat (first | exact HB.out | apply below_alloc | apply pw_below_drewN | apply below_drew1)⟩⟩
                                · rw [if_neg c28] at H
                                  exact absurd H (by simp)
                              · rw [if_neg c27] at H
                                exact absurd H (by simp)
                             case rest =>
                              clear HC26
                              try clear c1
                              try clear p1
                              try clear q1
                              try clear hx1
                              try clear c2
                              try clear p2
                              try clear c5
                              try clear c5b0
                              try clear c6
                              try clear c6b0
                              try clear c7
                              try clear c7b0
                              try clear c9
                              try clear c10
                              try clear c10b0
                              try clear c11
                              try clear c11b0
                              try clear c12
                              try clear c12b0
                              try clear c13
                              try clear c13b0
                              try clear c14
                              try clear c14b0
                              try clear c15
                              try clear c15b0
                              try clear c16
                              try clear p16
                              try clear q16
                              try clear hx16
                              try clear c17
                              try clear c17b0
                              try clear c17b1
                              try clear p17
                              try clear q17
                              try clear hx17
                              try clear c18
                              try clear p18
                              try clear q18
                              try clear hx18
                              try clear c23
                              try clear c23b0
                              try clear c24
                              try clear c24b0
                              try clear c25
                              try clear c25b0
                              try clear c25b1
                              try clear c27
                              try clear c27b0
                              try clear c28
                              try clear c28b0
                              try clear c29
                              try clear c29b0
                              try clear hx169_0
                              try clear hx169_1
                              try clear hx169_22
                              try clear hx173_0
                              try clear hx173_1
                              try clear hx173_22
                              try clear hx174_0
                              try clear hx175_0
                              try clear hx175_1
                              try clear hx175_22
                              try clear hx180_0
                              try clear hx180_1
                              try clear hx180_22
                              try clear hx181_0
                              try clear hx181_1
                              try clear hx181_22
                              try clear p1
                              try clear p16
                              try clear p169
                              try clear p17
                              try clear p173
                              try clear p174
                              try clear p175
                              try clear p18
                              try clear p180
                              try clear p181
                              try clear p2
                              try clear q1
                              try clear q16
                              try clear q169
                              try clear q17
                              try clear q173
                              try clear q174
                              try clear q175
                              try clear q18
                              try clear q180
                              try clear q181
                              obtain ⟨kq, x68_25, rfl, HA, HJ25, HO_8, HB⟩ := hcut
                              cases kq with
                              | zero => exact absurd HA.out (by simp [purflingref06_Cols.j4])
                              | succ kj25 =>
                               have H := HA.out
                               clear HA
                               simp only [purflingref06_Cols.j4] at H
                               by_cases c31 : x68_25 = true
                               · subst c31
                                 have H1 : (if 0 ≤ (rd ((rd_T48 l0 a1).f1) x9_1) then (if (rd ((rd_T48 l0 a1).f1) x9_1) < (l0.length : Int) then (if 0 ≤ x12_4 then (if x12_4 < (((rd_T48 l0 (rd ((rd_T48 l0 a1).f1) x9_1)).f1).length : Int) then (if 0 ≤ (rd ((rd_T48 l0 (rd ((rd_T48 l0 a1).f1) x9_1)).f1) x12_4) then (if (rd ((rd_T48 l0 (rd ((rd_T48 l0 a1).f1) x9_1)).f1) x12_4) < (l0.length : Int) then (if ((rd_T48 l0 (rd ((rd_T48 l0 (rd ((rd_T48 l0 a1).f1) x9_1)).f1) x12_4)).f0) = 5 then ((purflingref06_span.f l0 (rd ((rd_T48 l0 (rd ((rd_T48 l0 a1).f1) x9_1)).f1) x12_4)).bind fun t185 => ((purflingref06_many.f kj25 x8_4 (rd ((rd_T48 l0 (rd ((rd_T48 l0 a1).f1) x9_1)).f1) x12_4) (rd ((rd_T48 l0 a1).f1) x9_1) t185).bind fun t186 => (purflingref06_Cols.l1 kj25 l0 a1 a2 t186 x9_1 (rd ((rd_T48 l0 a1).f1) x9_1) true (wrap64 (x12_4 + 1))))) else (purflingref06_Cols.l1 kj25 l0 a1 a2 x8_4 x9_1 (rd ((rd_T48 l0 a1).f1) x9_1) x11_4 (wrap64 (x12_4 + 1)))) else (none)) else (none)) else (none)) else (none)) else (none)) else (none)) = some (r1, r2) := by rw [if_pos rfl] at H; exact H
                                 clear H
                                 have H := H1
                                 clear H1
                                 by_cases c32 : 0 ≤ (rd ((rd_T48 l0 a1).f1) x9_1)
                                 · rw [if_pos c32] at H
                                   have c32b0 : decide (0 ≤ (rd ((rd_T48 l0 a1).f1) x9_1)) = true := decide_eq_true c32
                                   clear c32
                                   by_cases c33 : (rd ((rd_T48 l0 a1).f1) x9_1) < (l0.length : Int)
                                   · rw [if_pos c33] at H
                                     have c33b0 : decide ((rd ((rd_T48 l0 a1).f1) x9_1) < (l0.length : Int)) = true := decide_eq_true c33
                                     clear c33
                                     by_cases c34 : 0 ≤ x12_4
                                     · rw [if_pos c34] at H
                                       have c34b0 : decide (0 ≤ x12_4) = true := decide_eq_true c34
                                       clear c34
                                       by_cases c35 : x12_4 < (((rd_T48 l0 (rd ((rd_T48 l0 a1).f1) x9_1)).f1).length : Int)
                                       · rw [if_pos c35] at H
                                         have c35b0 : decide (x12_4 < (((rd_T48 l0 (rd ((rd_T48 l0 a1).f1) x9_1)).f1).length : Int)) = true := decide_eq_true c35
                                         clear c35
                                         by_cases c36 : 0 ≤ (rd ((rd_T48 l0 (rd ((rd_T48 l0 a1).f1) x9_1)).f1) x12_4)
                                         · rw [if_pos c36] at H
                                           have c36b0 : decide (0 ≤ (rd ((rd_T48 l0 (rd ((rd_T48 l0 a1).f1) x9_1)).f1) x12_4)) = true := decide_eq_true c36
                                           clear c36
                                           by_cases c37 : (rd ((rd_T48 l0 (rd ((rd_T48 l0 a1).f1) x9_1)).f1) x12_4) < (l0.length : Int)
                                           · rw [if_pos c37] at H
                                             have c37b0 : decide ((rd ((rd_T48 l0 (rd ((rd_T48 l0 a1).f1) x9_1)).f1) x12_4) < (l0.length : Int)) = true := decide_eq_true c37
                                             clear c37
                                             by_cases c38 : ((rd_T48 l0 (rd ((rd_T48 l0 (rd ((rd_T48 l0 a1).f1) x9_1)).f1) x12_4)).f0) = 5
                                             · rw [if_pos c38] at H
                                               have c38b0 : (((rd_T48 l0 (rd ((rd_T48 l0 (rd ((rd_T48 l0 a1).f1) x9_1)).f1) x12_4)).f0) == 5) = true := beq_iff_eq.mpr c38
                                               have c38b1 : (((rd_T48 l0 (rd ((rd_T48 l0 (rd ((rd_T48 l0 a1).f1) x9_1)).f1) x12_4)).f0) != 5) = false := bne_eq_false_iff_eq.mpr c38
                                               clear c38
                                               replace H := Option.bind_eq_some_iff.mp H
                                               obtain ⟨t185, A390, H⟩ := H
                                               replace H : ((purflingref06_many.f kj25 x8_4 (rd ((rd_T48 l0 (rd ((rd_T48 l0 a1).f1) x9_1)).f1) x12_4) (rd ((rd_T48 l0 a1).f1) x9_1) t185).bind fun t186 => (purflingref06_Cols.l1 kj25 l0 a1 a2 t186 x9_1 (rd ((rd_T48 l0 a1).f1) x9_1) true (wrap64 (x12_4 + 1)))) = some (r1, r2) := H
                                               have A39 := Aside0.mk A390
                                               clear A390
                                               replace H := Option.bind_eq_some_iff.mp H
                                               obtain ⟨t186, A400, H⟩ := H
                                               replace H : (purflingref06_Cols.l1 kj25 l0 a1 a2 t186 x9_1 (rd ((rd_T48 l0 a1).f1) x9_1) true (wrap64 (x12_4 + 1))) = some (r1, r2) := H
                                               have A40 := Aside0.mk A400
                                               clear A400
                                               have H' := Aside0.mk H
                                               clear H
                                               have p182 : 0 ≤ ((rd ((rd_T48 l0 a1).f1) x9_1) : Int) := of_decide_eq_true (by first | (with_reducible assumption) | assumption)
                                               have q182 : (rd ((rd_T48 l0 a1).f1) x9_1) < (l0.length : Int) := of_decide_eq_true (by first | (with_reducible assumption) | assumption)
                                               obtain ⟨ad182, A182_1, c182_1, A182_31, c182_31, e182, hx182_0, hx182_1, -, -, -, -, -, -, -, -, -, -, -, -, -, -, -, -, -, -, -, -, hx182_22, -, -, -, -, -, -, -, -, -, -, -, hl182_1, hi182_1, hl182_31, hi182_31⟩ := at_T48 HR0.out (rd ((rd_T48 l0 a1).f1) x9_1) p182 q182
                                               obtain rfl : ad173 = ad182 := (by injection e182)
                                               replace hx182_0 := (HB.out.cell (World.block_lt_of_cell? w _ hx182_0)).trans hx182_0
                                               replace hx182_1 := (HB.out.cell (World.block_lt_of_cell? w _ hx182_1)).trans hx182_1
                                               replace hx182_22 := (HB.out.cell (World.block_lt_of_cell? w _ hx182_22)).trans hx182_22
                                               have HR182_1 := Aside0.mk hi182_1
                                               have HC182_1 := Aside0.mk hl182_1
                                               clear hi182_1 hl182_1
                                               have HR182_31 := Aside0.mk hi182_31
                                               have HC182_31 := Aside0.mk hl182_31
                                               clear hi182_31 hl182_31
                                               replace p182 := eq_true p182
                                               replace q182 := eq_true q182
                                               have p183 : 0 ≤ (x12_4 : Int) := of_decide_eq_true (by first | (with_reducible assumption) | assumption)
                                               have q183 : x12_4 < (((rd_T48 l0 (rd ((rd_T48 l0 a1).f1) x9_1)).f1).length : Int) := of_decide_eq_true (by first | (with_reducible assumption) | assumption)
                                               obtain ⟨ad183, e183, hx183_0⟩ := Kd.at_int HR182_1.out x12_4 p183 q183
                                               cases e183
                                               replace hx183_0 := (HB.out.cell (World.block_lt_of_cell? w _ hx183_0)).trans hx183_0
                                               replace p183 := eq_true p183
                                               replace q183 := eq_true q183
                                               have p184 : 0 ≤ ((rd ((rd_T48 l0 (rd ((rd_T48 l0 a1).f1) x9_1)).f1) x12_4) : Int) := of_decide_eq_true (by first | (with_reducible assumption) | assumption)
                                               have q184 : (rd ((rd_T48 l0 (rd ((rd_T48 l0 a1).f1) x9_1)).f1) x12_4) < (l0.length : Int) := of_decide_eq_true (by first | (with_reducible assumption) | assumption)
                                               obtain ⟨ad184, A184_1, c184_1, A184_31, c184_31, e184, hx184_0, hx184_1, -, -, -, -, -, -, -, -, -, -, -, -, -, -, -, -, -, -, -, -, hx184_22, -, -, -, -, -, -, -, -, -, -, -, hl184_1, hi184_1, hl184_31, hi184_31⟩ := at_T48 HR0.out (rd ((rd_T48 l0 (rd ((rd_T48 l0 a1).f1) x9_1)).f1) x12_4) p184 q184
                                               obtain rfl : ad173 = ad184 := (by injection e184)
                                               replace hx184_0 := (HB.out.cell (World.block_lt_of_cell? w _ hx184_0)).trans hx184_0
                                               replace hx184_1 := (HB.out.cell (World.block_lt_of_cell? w _ hx184_1)).trans hx184_1
                                               replace hx184_22 := (HB.out.cell (World.block_lt_of_cell? w _ hx184_22)).trans hx184_22
                                               have HR184_1 := Aside0.mk hi184_1
                                               have HC184_1 := Aside0.mk hl184_1
                                               clear hi184_1 hl184_1
                                               have HR184_31 := Aside0.mk hi184_31
                                               have HC184_31 := Aside0.mk hl184_31
                                               clear hi184_31 hl184_31
                                               replace p184 := eq_true p184
                                               replace q184 := eq_true q184
                                               go_wp2_with (first | ((with_reducible refine gate_callee (f := 28) rfl ?_); refine goesL_ (some 91) rfl rfl Try.func28 (by kernel_rfl) rfl #[.slice (some ad173) l0.length c0, .int .i64 (rd ((rd_T48 l0 (rd ((rd_T48 l0 a1).f1) x9_1)).f1) x12_4)] rfl (by (try simp only [List.map_toArray, List.map_cons, List.map_nil]); first | done | rfl) ?_; (with_reducible refine (purflingref06_span.calls _ _ l0 (rd ((rd_T48 l0 (rd ((rd_T48 l0 a1).f1) x9_1)).f1) x12_4) t185 _ ?side1 ?side2 A39.out).mono ?_); (case side1 => repeat (first | exact (Kd.C_below HR0.out HB.out) | (with_reducible refine Kd.C_alloc ?_ _) | (with_reducible refine Kd.C_drewN ?_ _) | (with_reducible refine Kd.C_drew ?_))); (case side2 => exact HC0.out); rintro e w41 ⟨rfl, hb⟩; refine ⟨_, rfl, ?_⟩; have n0_ := Aside0.mk (Kd.R_below (by (with_reducible repeat (first | apply Kd.R_alloc | apply Kd.R_drewN | apply Kd.R_drew)); exact HO_8.out) hb); have n1_ := Aside0.mk (below_step (by repeat (first | exact HB.out | apply below_alloc | apply pw_below_drewN | apply below_drew1)) hb); clear HO_8; clear HB; have HO_8 := n0_; have HB := n1_; clear n0_ n1_; (try clear hb); (try clear hb2); (try clear hk); (try clear hi); obtain ⟨Ao42, co42, eo42⟩ := Kd.R_slice HO_8.out; subst eo42) | ((with_reducible refine gate_callee (f := 27) rfl ?_); refine goesL_ (some 92) rfl rfl Try.func27 (by kernel_rfl) rfl #[.slice Ao42 x8_4.length co42, .agg #[.int .i64 (rd ((rd_T48 l0 (rd ((rd_T48 l0 a1).f1) x9_1)).f1) x12_4), .int .i64 (rd ((rd_T48 l0 a1).f1) x9_1)], .int .i64 t185] rfl (by (try simp only [List.map_toArray, List.map_cons, List.map_nil]); first | done | rfl) ?_; (with_reducible refine (purflingref06_many.calls kj25 (fun k_ => some k_ = (.slice Ao42 x8_4.length co42 : Value).ownBlock) (.slice Ao42 x8_4.length co42) x8_4 (rd ((rd_T48 l0 (rd ((rd_T48 l0 a1).f1) x9_1)).f1) x12_4) (rd ((rd_T48 l0 a1).f1) x9_1) t185 t186 w _ ?side1 ?side2 A40.out).mono ?_); (case side1 => repeat (first | exact HB.out | apply below_alloc | apply pw_below_drewN | apply below_drew1)); (case side2 => exact Kd.R_tight rfl HO_8.out); rintro e w43 ⟨v187, rfl, ho0, hb, hkp⟩; refine ⟨_, rfl, ?_⟩; have n0_ := Aside0.mk (Kd.R_mono (ok' := fun k_ => True) ho0 (fun k_ hk_ => trivial)); have n1_ := Aside0.mk (hb); clear HB; clear HO_8; have HO188 := n0_; have HB := n1_; clear n0_ n1_; (try clear hb); (try clear hkp); (try clear ho0)))
                                               go_roundg kj25
                                               case measure => have := HK1.out; have := HJ3.out; have := HJ15.out; have := HK4.out; have := HJ25.out; omega
                                               case rel => exact ⟨(t186), (true), (wrap64 (x12_4 + 1)), (by first | rfl | (simp; done) | (simp [*]; done)), (by first | rfl | (simp; done) | (simp [*]; done)), H', ⟨by have := HK1.out; have := HJ3.out; have := HJ15.out; have := HK4.out; have := HJ25.out; omega⟩, ⟨by (with_reducible repeat (first | apply Kd.R_alloc | apply Kd.R_drewN | apply Kd.R_drew)); exact HO188.out⟩, ⟨by repeat (first | exact HB.out | apply below_alloc | apply pw_below_drewN | apply below_drew1)⟩⟩
                                             · rw [if_neg c38] at H
                                               have c38b0 : (((rd_T48 l0 (rd ((rd_T48 l0 (rd ((rd_T48 l0 a1).f1) x9_1)).f1) x12_4)).f0) == 5) = false := beq_eq_false_iff_ne.mpr c38
                                               have c38b1 : (((rd_T48 l0 (rd ((rd_T48 l0 (rd ((rd_T48 l0 a1).f1) x9_1)).f1) x12_4)).f0) != 5) = true := bne_iff_ne.mpr c38
                                               have H' := Aside0.mk H
                                               clear H
                                               have p182 : 0 ≤ ((rd ((rd_T48 l0 a1).f1) x9_1) : Int) := of_decide_eq_true (by first | (with_reducible assumption) | assumption)
                                               have q182 : (rd ((rd_T48 l0 a1).f1) x9_1) < (l0.length : Int) := of_decide_eq_true (by first | (with_reducible assumption) | assumption)
                                               obtain ⟨ad182, A182_1, c182_1, A182_31, c182_31, e182, hx182_0, hx182_1, -, -, -, -, -, -, -, -, -, -, -, -, -, -, -, -, -, -, -, -, hx182_22, -, -, -, -, -, -, -, -, -, -, -, hl182_1, hi182_1, hl182_31, hi182_31⟩ := at_T48 HR0.out (rd ((rd_T48 l0 a1).f1) x9_1) p182 q182
                                               obtain rfl : ad173 = ad182 := (by injection e182)
                                               replace hx182_0 := (HB.out.cell (World.block_lt_of_cell? w _ hx182_0)).trans hx182_0
                                               replace hx182_1 := (HB.out.cell (World.block_lt_of_cell? w _ hx182_1)).trans hx182_1
                                               replace hx182_22 := (HB.out.cell (World.block_lt_of_cell? w _ hx182_22)).trans hx182_22
                                               have HR182_1 := Aside0.mk hi182_1
                                               have HC182_1 := Aside0.mk hl182_1
                                               clear hi182_1 hl182_1
                                               have HR182_31 := Aside0.mk hi182_31
                                               have HC182_31 := Aside0.mk hl182_31
                                               clear hi182_31 hl182_31
                                               replace p182 := eq_true p182
                                               replace q182 := eq_true q182
                                               have p183 : 0 ≤ (x12_4 : Int) := of_decide_eq_true (by first | (with_reducible assumption) | assumption)
                                               have q183 : x12_4 < (((rd_T48 l0 (rd ((rd_T48 l0 a1).f1) x9_1)).f1).length : Int) := of_decide_eq_true (by first | (with_reducible assumption) | assumption)
                                               obtain ⟨ad183, e183, hx183_0⟩ := Kd.at_int HR182_1.out x12_4 p183 q183
                                               cases e183
                                               replace hx183_0 := (HB.out.cell (World.block_lt_of_cell? w _ hx183_0)).trans hx183_0
                                               replace p183 := eq_true p183
                                               replace q183 := eq_true q183
                                               have p184 : 0 ≤ ((rd ((rd_T48 l0 (rd ((rd_T48 l0 a1).f1) x9_1)).f1) x12_4) : Int) := of_decide_eq_true (by first | (with_reducible assumption) | assumption)
                                               have q184 : (rd ((rd_T48 l0 (rd ((rd_T48 l0 a1).f1) x9_1)).f1) x12_4) < (l0.length : Int) := of_decide_eq_true (by first | (with_reducible assumption) | assumption)
                                               obtain ⟨ad184, A184_1, c184_1, A184_31, c184_31, e184, hx184_0, hx184_1, -, -, -, -, -, -, -, -, -, -, -, -, -, -, -, -, -, -, -, -, hx184_22, -, -, -, -, -, -, -, -, -, -, -, hl184_1, hi184_1, hl184_31, hi184_31⟩ := at_T48 HR0.out (rd ((rd_T48 l0 (rd ((rd_T48 l0 a1).f1) x9_1)).f1) x12_4) p184 q184
                                               obtain rfl : ad173 = ad184 := (by injection e184)
                                               replace hx184_0 := (HB.out.cell (World.block_lt_of_cell? w _ hx184_0)).trans hx184_0
                                               replace hx184_1 := (HB.out.cell (World.block_lt_of_cell? w _ hx184_1)).trans hx184_1
                                               replace hx184_22 := (HB.out.cell (World.block_lt_of_cell? w _ hx184_22)).trans hx184_22
                                               have HR184_1 := Aside0.mk hi184_1
                                               have HC184_1 := Aside0.mk hl184_1
                                               clear hi184_1 hl184_1
                                               have HR184_31 := Aside0.mk hi184_31
                                               have HC184_31 := Aside0.mk hl184_31
                                               clear hi184_31 hl184_31
                                               replace p184 := eq_true p184
                                               replace q184 := eq_true q184
                                               go_wp2
                                               go_roundg kj25
                                               case measure => have := HK1.out; have := HJ3.out; have := HJ15.out; have := HK4.out; have := HJ25.out; omega
                                               case rel => exact ⟨(x8_4), (x11_4), (wrap64 (x12_4 + 1)), (by first | rfl | (simp; done) | (simp [*]; done)), (by first | rfl | (simp; done) | (simp [*]; done)), H', ⟨by have := HK1.out; have := HJ3.out; have := HJ15.out; have := HK4.out; have := HJ25.out; omega⟩, ⟨by (with_reducible repeat (first | apply Kd.R_alloc | apply Kd.R_drewN | apply Kd.R_drew)); exact HO_8.out⟩, ⟨by repeat (first | exact HB.out | apply below_alloc | apply pw_below_drewN | apply below_drew1)⟩⟩
                                           · rw [if_neg c37] at H
                                             exact absurd H (by simp)
                                         · rw [if_neg c36] at H
                                           exact absurd H (by simp)
                                       · rw [if_neg c35] at H
                                         exact absurd H (by simp)
                                     · rw [if_neg c34] at H
                                       exact absurd H (by simp)
                                   · rw [if_neg c33] at H
                                     exact absurd H (by simp)
                                 · rw [if_neg c32] at H
                                   exact absurd H (by simp)
                               · replace c31 := Bool.eq_false_iff.mpr c31
                                 subst c31
                                 have H1 : (if x11_4 = true then (purflingref06_Cols.l0 kj25 l0 a1 a2 x8_4 (wrap64 (x9_1 + 1))) else ((purflingref06_span.f l0 (rd ((rd_T48 l0 a1).f1) x9_1)).bind fun t189 => ((purflingref06_many.f kj25 x8_4 (-1) (rd ((rd_T48 l0 a1).f1) x9_1) t189).bind fun t190 => (purflingref06_Cols.l0 kj25 l0 a1 a2 t190 (wrap64 (x9_1 + 1)))))) = some (r1, r2) := by rw [if_neg (show ¬ (false = true) by decide)] at H; exact H
                                 clear H
                                 have H := H1
                                 clear H1
                                 by_cases c44 : x11_4 = true
                                 · subst c44
                                   have H1 : (purflingref06_Cols.l0 kj25 l0 a1 a2 x8_4 (wrap64 (x9_1 + 1))) = some (r1, r2) := by rw [if_pos rfl] at H; exact H
                                   clear H
                                   have H := H1
                                   clear H1
                                   have H' := Aside0.mk H
                                   clear H
                                   go_wp2
                                   go_roundg kj25
                                   case measure => have := HK1.out; have := HJ3.out; have := HJ15.out; have := HK4.out; have := HJ25.out; omega
                                   case rel => exact ⟨(x8_4), (wrap64 (x9_1 + 1)), (by first | rfl | (simp; done) | (simp [*]; done)), H', ⟨by have := HK1.out; have := HJ3.out; have := HJ15.out; have := HK4.out; have := HJ25.out; omega⟩, ⟨by (with_reducible repeat (first | apply Kd.R_alloc | apply Kd.R_drewN | apply Kd.R_drew)); exact HO_8.out⟩, ⟨by repeat (first | exact HB.out | apply below_alloc | apply pw_below_drewN | apply below_drew1)⟩⟩
                                 · replace c44 := Bool.eq_false_iff.mpr c44
                                   subst c44
                                   have H1 : ((purflingref06_span.f l0 (rd ((rd_T48 l0 a1).f1) x9_1)).bind fun t189 => ((purflingref06_many.f kj25 x8_4 (-1) (rd ((rd_T48 l0 a1).f1) x9_1) t189).bind fun t190 => (purflingref06_Cols.l0 kj25 l0 a1 a2 t190 (wrap64 (x9_1 + 1))))) = some (r1, r2) := by rw [if_neg (show ¬ (false = true) by decide)] at H; exact H
                                   clear H
                                   have H := H1
                                   clear H1
                                   replace H := Option.bind_eq_some_iff.mp H
                                   obtain ⟨t189, A450, H⟩ := H
                                   replace H : ((purflingref06_many.f kj25 x8_4 (-1) (rd ((rd_T48 l0 a1).f1) x9_1) t189).bind fun t190 => (purflingref06_Cols.l0 kj25 l0 a1 a2 t190 (wrap64 (x9_1 + 1)))) = some (r1, r2) := H
                                   have A45 := Aside0.mk A450
                                   clear A450
                                   replace H := Option.bind_eq_some_iff.mp H
                                   obtain ⟨t190, A460, H⟩ := H
                                   replace H : (purflingref06_Cols.l0 kj25 l0 a1 a2 t190 (wrap64 (x9_1 + 1))) = some (r1, r2) := H
                                   have A46 := Aside0.mk A460
                                   clear A460
                                   have H' := Aside0.mk H
                                   clear H
                                   go_wp2_with (first | ((with_reducible refine gate_callee (f := 28) rfl ?_); refine goesL_ (some 100) rfl rfl Try.func28 (by kernel_rfl) rfl #[.slice (some ad173) l0.length c0, .int .i64 (rd ((rd_T48 l0 a1).f1) x9_1)] rfl (by (try simp only [List.map_toArray, List.map_cons, List.map_nil]); first | done | rfl) ?_; (with_reducible refine (purflingref06_span.calls _ _ l0 (rd ((rd_T48 l0 a1).f1) x9_1) t189 _ ?side1 ?side2 A45.out).mono ?_); (case side1 => repeat (first | exact (Kd.C_below HR0.out HB.out) | (with_reducible refine Kd.C_alloc ?_ _) | (with_reducible refine Kd.C_drewN ?_ _) | (with_reducible refine Kd.C_drew ?_))); (case side2 => exact HC0.out); rintro e w47 ⟨rfl, hb⟩; refine ⟨_, rfl, ?_⟩; have n0_ := Aside0.mk (Kd.R_below (by (with_reducible repeat (first | apply Kd.R_alloc | apply Kd.R_drewN | apply Kd.R_drew)); exact HO_8.out) hb); have n1_ := Aside0.mk (below_step (by repeat (first | exact HB.out | apply below_alloc | apply pw_below_drewN | apply below_drew1)) hb); clear HO_8; clear HB; have HO_8 := n0_; have HB := n1_; clear n0_ n1_; (try clear hb); (try clear hb2); (try clear hk); (try clear hi); obtain ⟨Ao48, co48, eo48⟩ := Kd.R_slice HO_8.out; subst eo48) | ((with_reducible refine gate_callee (f := 27) rfl ?_); refine goesL_ (some 101) rfl rfl Try.func27 (by kernel_rfl) rfl #[.slice Ao48 x8_4.length co48, .agg #[.int .i64 (-1), .int .i64 (rd ((rd_T48 l0 a1).f1) x9_1)], .int .i64 t189] rfl (by (try simp only [List.map_toArray, List.map_cons, List.map_nil]); first | done | rfl) ?_; (with_reducible refine (purflingref06_many.calls kj25 (fun k_ => some k_ = (.slice Ao48 x8_4.length co48 : Value).ownBlock) (.slice Ao48 x8_4.length co48) x8_4 (-1) (rd ((rd_T48 l0 a1).f1) x9_1) t189 t190 w _ ?side1 ?side2 A46.out).mono ?_); (case side1 => repeat (first | exact HB.out | apply below_alloc | apply pw_below_drewN | apply below_drew1)); (case side2 => exact Kd.R_tight rfl HO_8.out); rintro e w49 ⟨v191, rfl, ho0, hb, hkp⟩; refine ⟨_, rfl, ?_⟩; have n0_ := Aside0.mk (Kd.R_mono (ok' := fun k_ => True) ho0 (fun k_ hk_ => trivial)); have n1_ := Aside0.mk (hb); clear HB; clear HO_8; have HO192 := n0_; have HB := n1_; clear n0_ n1_; (try clear hb); (try clear hkp); (try clear ho0)))
                                   go_roundg kj25
                                   case measure => have := HK1.out; have := HJ3.out; have := HJ15.out; have := HK4.out; have := HJ25.out; omega
                                   case rel => exact ⟨(t190), (wrap64 (x9_1 + 1)), (by first | rfl | (simp; done) | (simp [*]; done)), H', ⟨by have := HK1.out; have := HJ3.out; have := HJ15.out; have := HK4.out; have := HJ25.out; omega⟩, ⟨by (with_reducible repeat (first | apply Kd.R_alloc | apply Kd.R_drewN | apply Kd.R_drew)); exact HO192.out⟩, ⟨by repeat (first | exact HB.out | apply below_alloc | apply pw_below_drewN | apply below_drew1)⟩⟩
                         · rw [if_neg c25] at H
                           have c25b0 : (((rd_T48 l0 (rd ((rd_T48 l0 a1).f1) x9_1)).f0) == 4) = false := beq_eq_false_iff_ne.mpr c25
                           have c25b1 : (((rd_T48 l0 (rd ((rd_T48 l0 a1).f1) x9_1)).f0) != 4) = true := bne_iff_ne.mpr c25
                           have H' := Aside0.mk H
                           clear H
                           have p180 : 0 ≤ ((rd ((rd_T48 l0 a1).f1) x9_1) : Int) := of_decide_eq_true (by first | (with_reducible assumption) | assumption)
                           have q180 : (rd ((rd_T48 l0 a1).f1) x9_1) < (l0.length : Int) := of_decide_eq_true (by first | (with_reducible assumption) | assumption)
                           obtain ⟨ad180, A180_1, c180_1, A180_31, c180_31, e180, hx180_0, hx180_1, -, -, -, -, -, -, -, -, -, -, -, -, -, -, -, -, -, -, -, -, hx180_22, -, -, -, -, -, -, -, -, -, -, -, hl180_1, hi180_1, hl180_31, hi180_31⟩ := at_T48 HR0.out (rd ((rd_T48 l0 a1).f1) x9_1) p180 q180
                           obtain rfl : ad173 = ad180 := (by injection e180)
                           replace hx180_0 := (HB.out.cell (World.block_lt_of_cell? w _ hx180_0)).trans hx180_0
                           replace hx180_1 := (HB.out.cell (World.block_lt_of_cell? w _ hx180_1)).trans hx180_1
                           replace hx180_22 := (HB.out.cell (World.block_lt_of_cell? w _ hx180_22)).trans hx180_22
                           have HR180_1 := Aside0.mk hi180_1
                           have HC180_1 := Aside0.mk hl180_1
                           clear hi180_1 hl180_1
                           have HR180_31 := Aside0.mk hi180_31
                           have HC180_31 := Aside0.mk hl180_31
                           clear hi180_31 hl180_31
                           replace p180 := eq_true p180
                           replace q180 := eq_true q180
                           go_wp2
                           go_roundg kj15
                           case measure => have := HK1.out; have := HJ3.out; have := HJ15.out; omega
                           case rel => exact ⟨(x8_15), (wrap64 (x9_1 + 1)), (by first | rfl | (simp; done) | (simp [*]; done)), H', ⟨by have := HK1.out; have := HJ3.out; have := HJ15.out; omega⟩, ⟨by (with_reducible repeat (first | apply Kd.R_alloc | apply Kd.R_drewN | apply Kd.R_drew)); exact HO_8.out⟩, ⟨by repeat (first | exact HB.out | apply below_alloc | apply pw_below_drewN | apply below_drew1)⟩⟩
                       · rw [if_neg c24] at H
                         exact absurd H (by simp)
                     · rw [if_neg c23] at H
                       exact absurd H (by simp)
                 · rw [if_neg c15] at H
                   exact absurd H (by simp)
               · rw [if_neg c14] at H
                 exact absurd H (by simp)
             · rw [if_neg c13] at H
               exact absurd H (by simp)
           · rw [if_neg c12] at H
             exact absurd H (by simp)
         · rw [if_neg c11] at H
           exact absurd H (by simp)
       · rw [if_neg c10] at H
         exact absurd H (by simp)
     · replace c9 := Bool.eq_false_iff.mpr c9
       subst c9
       have H1 : (if (x8_1.length : Int) > 10000 then (some (([] : List (S35)), 43)) else ((purflingref06_many.f kj3 x8_1 (-1) (-1) (mx 0 (wrap64 (a2 - (x8_1.length : Int))))).bind fun t170 => (some (t170, 0)))) = some (r1, r2) := by rw [if_neg (show ¬ (false = true) by decide)] at H; exact H
       clear H
       have H := H1
       clear H1
       by_cases c50 : (x8_1.length : Int) > 10000
       · rw [if_pos c50] at H
         have c50b0 : decide (10000 < (x8_1.length : Int)) = true := decide_eq_true c50
         have c50b1 : decide (10000 < x8_1.length) = true := decide_eq_true (by omega)
         clear c50
         simp only [Option.some.injEq, Prod.mk.injEq] at H
         obtain ⟨rfl, rfl⟩ := H
         obtain ⟨Ao51, co51, eo51⟩ := Kd.R_slice HO_8.out
         subst eo51
         go_wp2
         go_ret2
         exact ⟨_, by first | rfl | (simp [errW_none, errW_some] <;> rfl) | (simp [*, errW_none, errW_some] <;> rfl), by first | exact Kd.R_nil _ _ _ _ _ | exact Kd.N_nil _ _ _ _ _ | exact Kd.V_nil _ _ _ _ _ | exact Kd.Q_nil _ _ _ _ _ | exact Kd.S_nil _ _ _ _ _, by repeat (first | exact HB.out | apply below_alloc | apply pw_below_drewN | apply below_drew1)⟩
       · rw [if_neg c50] at H
         have c50b0 : decide (10000 < (x8_1.length : Int)) = false := decide_eq_false c50
         have c50b1 : decide (10000 < x8_1.length) = false := decide_eq_false (by omega)
         clear c50
         obtain ⟨ji52, hji52⟩ : ∃ j_ : Int, (mx 0 (wrap64 (a2 - (x8_1.length : Int)))) = j_ := ⟨_, rfl⟩
         replace H : ((purflingref06_many.f kj3 x8_1 (-1) (-1) (ji52)).bind fun t170 => (some (t170, 0))) = some (r1, r2) := by first | (rw [hji52] at H; exact H) | (simp only [hji52] at H ⊢; exact H)
         have hji52_ : (if 0 < (wrap64 (a2 - (x8_1.length : Int))) then (wrap64 (a2 - (x8_1.length : Int))) else 0) = ji52 := hji52
         replace H := Option.bind_eq_some_iff.mp H
         obtain ⟨t170, A530, H⟩ := H
         replace H : (some (t170, 0)) = some (r1, r2) := H
         have A53 := Aside0.mk A530
         clear A530
         simp only [Option.some.injEq, Prod.mk.injEq] at H
         obtain ⟨rfl, rfl⟩ := H
         obtain ⟨Ao54, co54, eo54⟩ := Kd.R_slice HO_8.out
         subst eo54
         go_wp2_with (first | ((with_reducible refine gate_callee (f := 27) rfl ?_); refine goesL_ (some 112) rfl rfl Try.func27 (by kernel_rfl) rfl #[.slice Ao54 x8_1.length co54, .agg #[.int .i64 (-1), .int .i64 (-1)], .int .i64 ji52] rfl (by (try simp only [List.map_toArray, List.map_cons, List.map_nil]); first | done | (simp only [hji52]; rfl) | rfl | (simp only [List.length_drop, List.length_take]; rfl)) ?_; (with_reducible refine (purflingref06_many.calls kj3 (fun k_ => some k_ = (.slice Ao54 x8_1.length co54 : Value).ownBlock) (.slice Ao54 x8_1.length co54) x8_1 (-1) (-1) ji52 t170 w _ ?side1 ?side2 A53.out).mono ?_); (case side1 => repeat (first | exact HB.out | apply below_alloc | apply pw_below_drewN | apply below_drew1)); (case side2 => exact Kd.R_tight rfl HO_8.out); rintro e w55 ⟨v171, rfl, ho0, hb, hkp⟩; refine ⟨_, rfl, ?_⟩; have n0_ := Aside0.mk (Kd.R_mono (ok' := fun k_ => True) ho0 (fun k_ hk_ => trivial)); have n1_ := Aside0.mk (hb); clear HB; clear HO_8; have HO172 := n0_; have HB := n1_; clear n0_ n1_; (try clear hb); (try clear hkp); (try clear ho0)))
         go_ret2
         exact ⟨_, by first | rfl | (simp [errW_none, errW_some] <;> rfl) | (simp only [← hji52]; first | rfl | (simp [errW_none, errW_some] <;> rfl)) | (simp [*, errW_none, errW_some] <;> rfl), by (with_reducible repeat (first | apply Kd.R_alloc | apply Kd.R_drewN | apply Kd.R_drew)); exact HO172.out, by repeat (first | exact HB.out | apply below_alloc | apply pw_below_drewN | apply below_drew1)⟩
end Go.Proofs.Ytdmnaehgngpikaa.K
