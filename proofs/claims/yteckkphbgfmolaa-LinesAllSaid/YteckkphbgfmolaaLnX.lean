/- Layer 8: Least, Most of the reference, and Box. -/
import Derived.Test.YteckkphbgfmolaaLnC
import Derived.Test.YteckkphbgfmolaaK5
import Derived.Test.YteckkphbgfmolaaK7
namespace Go.Proofs.Yteckkphbgfmolaa.Pure
open Go.RowKit Go.Proofs.YteckkphbgfmolaaW.PrintWords Go.Proofs.YteckkphbgfmolaaW.PrintLast Go.Proofs.YteckkphbgfmolaaW.PrintMore Go.Proofs.Yteckkphbgfmolaa.K
set_option linter.unusedVariables false
set_option linter.unusedSimpArgs false

theorem foldl_mx_bound : ∀ (l : List Int) (s : Int), (∀ x ∈ l, 0 ≤ x ∧ x ≤ 1073741824) → 0 ≤ s → s ≤ 1073741824 → s ≤ l.foldl mx s ∧ l.foldl mx s ≤ 1073741824
  | [], s, h, h0, h1 => ⟨Int.le_refl _, h1⟩
  | x :: l, s, h, h0, h1 => by
    have hx := h x (List.mem_cons_self ..)
    have hm : s ≤ mx s x ∧ mx s x ≤ 1073741824 := by unfold mx; split <;> omega
    have := foldl_mx_bound l (mx s x) (fun y hy => h y (List.mem_cons_of_mem _ hy)) (by omega) (by omega)
    rw [List.foldl_cons]; omega
theorem foldl_mx_ge : ∀ (l : List Int) (s : Int), s ≤ l.foldl mx s ∧ ∀ x ∈ l, x ≤ l.foldl mx s
  | [], s => ⟨Int.le_refl _, fun _ h => nomatch h⟩
  | y :: l, s => by
    have hm : s ≤ mx s y ∧ y ≤ mx s y := by unfold mx; split <;> omega
    obtain ⟨h1, h2⟩ := foldl_mx_ge l (mx s y)
    rw [List.foldl_cons]
    exact ⟨by omega, fun x hx => by
      rcases List.mem_cons.1 hx with rfl | hx
      · omega
      · exact h2 x hx⟩
theorem max_l0 (xs : List Int) (hl : xs.length ≤ 100000) : ∀ (d j : Nat) (s : Int), j + d = xs.length → Ev (fun k => slices_Max_int64_int64.l0 k xs s (j : Int)) ((xs.drop j).foldl mx s)
  | 0, j, s, h => by
    rw [List.drop_of_length_le (by omega), List.foldl_nil]
    exact Ev.step (fun k => by rw [slices_Max_int64_int64.l0]) (ev_neg (by omega) (ev_now rfl))
  | d + 1, j, s, h => by
    obtain ⟨x, hx, hm⟩ := at_some (xs := xs) (j := j) (by omega)
    refine Ev.step (fun k => by rw [slices_Max_int64_int64.l0]) (ev_pos (by omega) (ev_pos (by omega) ?_))
    rw [rd_at hx, up_ok (by omega), show xs.drop j = x :: xs.drop (j + 1) by
      obtain ⟨h1, h2⟩ := List.getElem?_eq_some_iff.1 hx; rw [← h2]; exact List.drop_eq_getElem_cons h1, List.foldl_cons]
    exact max_l0 xs hl d (j + 1) (mx s x) (by omega)
theorem max_ev (xs : List Int) (hl : xs.length ≤ 10000) : Ev (fun k => slices_Max_int64_int64.f k (([0] : List Int) ++ xs)) (xs.foldl mx 0) := by
  unfold slices_Max_int64_int64.f
  have h0 : (([0] : List Int) ++ xs).length = xs.length + 1 := by simp
  refine ev_neg (by omega) (ev_pos (by omega) ?_)
  have := max_l0 (([0] : List Int) ++ xs) (by omega) xs.length 1 (rd (([0] : List Int) ++ xs) 0) (by omega)
  exact this
def leastP (n : Nd) : Int × Int := if rightB n = true then (n.f3.foldl mx 0, 0) else (0, 90)

theorem least_ev (n : Nd) : Ev (fun k => lines_Least.f k (n.f0) (n.f1) (n.f2.f0.f0) (n.f2.f0.f1) (n.f2.f1.f0) (n.f2.f1.f1) (n.f2.f2.f0) (n.f2.f2.f1) (n.f2.f2.f2) (n.f2.f2.f3) (n.f2.f3.f0.f0) (n.f2.f3.f0.f1) (n.f2.f3.f0.f2) (n.f2.f3.f1.f0) (n.f2.f3.f1.f1) (n.f2.f3.f1.f2) (n.f2.f3.f2.f0) (n.f2.f3.f2.f1) (n.f2.f3.f2.f2) (n.f2.f3.f3.f0) (n.f2.f3.f3.f1) (n.f2.f3.f3.f2) (n.f2.f4) (n.f2.f5) (n.f2.f6) (n.f2.f7) (n.f2.f8) (n.f2.f9.f0) (n.f2.f9.f1) (n.f2.f10) (n.f2.f11) (n.f3) (n.f4) (n.f5)) (leastP n) := by
  unfold lines_Least.f leastP
  rw [right_f n]
  by_cases hR : rightB n = true
  · obtain ⟨-, hl, -⟩ := right_facts hR
    rw [if_pos hR]
    simp only [Option.bind_some, hR, if_true]
    refine ev_pos (by simp; omega) (ev_bind (max_ev n.f3 hl) (ev_now rfl))
  · rw [if_neg hR]
    simp only [Option.bind_some, hR, if_false, Bool.false_eq_true]
    exact ev_now rfl

theorem rleast_l0 (n : Nd) (hl : n.f3.length ≤ 10000) : ∀ (d j : Nat) (s : Int), j + d = n.f3.length → Ev (fun k => purflingref08_Least.l0 k s (j : Int) (n.f0) (n.f1) (n.f2.f0.f0) (n.f2.f0.f1) (n.f2.f1.f0) (n.f2.f1.f1) (n.f2.f2.f0) (n.f2.f2.f1) (n.f2.f2.f2) (n.f2.f2.f3) (n.f2.f3.f0.f0) (n.f2.f3.f0.f1) (n.f2.f3.f0.f2) (n.f2.f3.f1.f0) (n.f2.f3.f1.f1) (n.f2.f3.f1.f2) (n.f2.f3.f2.f0) (n.f2.f3.f2.f1) (n.f2.f3.f2.f2) (n.f2.f3.f3.f0) (n.f2.f3.f3.f1) (n.f2.f3.f3.f2) (n.f2.f4) (n.f2.f5) (n.f2.f6) (n.f2.f7) (n.f2.f8) (n.f2.f9.f0) (n.f2.f9.f1) (n.f2.f10) (n.f2.f11) (n.f3) (n.f4) (n.f5)) ((n.f3.drop j).foldl mx s)
  | 0, j, s, h => by
    rw [List.drop_of_length_le (by omega), List.foldl_nil]
    exact Ev.step (fun k => by rw [purflingref08_Least.l0]) (ev_neg (by omega) (ev_now rfl))
  | d + 1, j, s, h => by
    obtain ⟨x, hx, hm⟩ := at_some (xs := n.f3) (j := j) (by omega)
    refine Ev.step (fun k => by rw [purflingref08_Least.l0]) (ev_pos (by omega) (ev_pos (by omega) ?_))
    rw [rd_at hx, up_ok (by omega), show n.f3.drop j = x :: n.f3.drop (j + 1) by
      obtain ⟨h1, h2⟩ := List.getElem?_eq_some_iff.1 hx; rw [← h2]; exact List.drop_eq_getElem_cons h1, List.foldl_cons]
    exact rleast_l0 n hl d (j + 1) (mx s x) (by omega)

theorem rleast_ev (n : Nd) (hR : rightB n = true) : Ev (fun k => purflingref08_Least.f k (n.f0) (n.f1) (n.f2.f0.f0) (n.f2.f0.f1) (n.f2.f1.f0) (n.f2.f1.f1) (n.f2.f2.f0) (n.f2.f2.f1) (n.f2.f2.f2) (n.f2.f2.f3) (n.f2.f3.f0.f0) (n.f2.f3.f0.f1) (n.f2.f3.f0.f2) (n.f2.f3.f1.f0) (n.f2.f3.f1.f1) (n.f2.f3.f1.f2) (n.f2.f3.f2.f0) (n.f2.f3.f2.f1) (n.f2.f3.f2.f2) (n.f2.f3.f3.f0) (n.f2.f3.f3.f1) (n.f2.f3.f3.f2) (n.f2.f4) (n.f2.f5) (n.f2.f6) (n.f2.f7) (n.f2.f8) (n.f2.f9.f0) (n.f2.f9.f1) (n.f2.f10) (n.f2.f11) (n.f3) (n.f4) (n.f5)) (n.f3.foldl mx 0) := by
  obtain ⟨-, hl, -⟩ := right_facts hR
  unfold purflingref08_Least.f
  exact rleast_l0 n hl n.f3.length 0 0 (by omega)

theorem rmost_ev (n : Nd) (hR : rightB n = true) : Ev (fun k => purflingref08_Most.f k (n.f0) (n.f1) (n.f2.f0.f0) (n.f2.f0.f1) (n.f2.f1.f0) (n.f2.f1.f1) (n.f2.f2.f0) (n.f2.f2.f1) (n.f2.f2.f2) (n.f2.f2.f3) (n.f2.f3.f0.f0) (n.f2.f3.f0.f1) (n.f2.f3.f0.f2) (n.f2.f3.f1.f0) (n.f2.f3.f1.f1) (n.f2.f3.f1.f2) (n.f2.f3.f2.f0) (n.f2.f3.f2.f1) (n.f2.f3.f2.f2) (n.f2.f3.f3.f0) (n.f2.f3.f3.f1) (n.f2.f3.f3.f2) (n.f2.f4) (n.f2.f5) (n.f2.f6) (n.f2.f7) (n.f2.f8) (n.f2.f9.f0) (n.f2.f9.f1) (n.f2.f10) (n.f2.f11) (n.f3) (n.f4) (n.f5)) (wideP n.f3 n.f4 0 n.f3.length) := by
  unfold purflingref08_Most.f
  exact ev_bind (rwide_ev n hR 0 n.f3.length (Nat.zero_le _) (Nat.le_refl _)) (ev_now rfl)
/-- Break's answer whole -/
def linesE (n : Nd) (width : Int) : List (Nat × Nat) × Int := if rightB n = true then (linesP n width, 0) else ([], 90)
theorem linesE_len (n : Nd) (width : Int) : (linesE n width).1.length ≤ 10000 := by
  unfold linesE; split
  · rename_i hR
    obtain ⟨-, hl, -⟩ := right_facts hR
    exact Nat.le_trans (linesN_len _ _ _ _ _) hl
  · exact Nat.zero_le _
/-- what a text needs, told as the box's cells -/
def boxC (n : Nd) (width : Int) : Array Value := #[.int .i64 (n.f3.foldl mx 0), .int .i64 (wideP n.f3 n.f4 0 n.f3.length), .int .i64 (n.f5 * ((linesP n width).length : Int)), .int .i64 (if 0 < (linesP n width).length then n.f5 - n.f5 / 4 else 0), .bool (decide (0 < (linesP n width).length))]
def boxZ : Array Value := #[.int .i64 0, .int .i64 0, .int .i64 0, .int .i64 0, .bool false]
end Go.Proofs.Yteckkphbgfmolaa.Pure
namespace Go.Proofs.Yteckkphbgfmolaa.K
open Go.RowKit Go.Proofs.YteckkphbgfmolaaW.PrintWords Go.Proofs.YteckkphbgfmolaaW.PrintLast Go.Proofs.YteckkphbgfmolaaW.PrintMore Go.Proofs.Yteckkphbgfmolaa.Pure
set_option linter.unusedVariables false
set_option linter.unusedSimpArgs false

theorem least_any (A1 : Option Addr) (c1 : Nat) (A3 : Option Addr) (c3 : Nat) (n : Nd) (w : World) (hr1 : Kd.C (Kd.int .i64) w A1 n.f1.length n.f1) (hc1 : n.f1.length ≤ c1) (hr3 : Kd.C (Kd.int .i64) w A3 n.f3.length n.f3) (hc3 : n.f3.length ≤ c3) :
    Calls Try.prog 20 #[.agg (nodeC A1 c1 A3 c3 n)] w fun e w' => e = .returned (.tuple #[.int .i64 (leastP n).1, .int .i64 (leastP n).2]) ∧ Below w.heap.size w w' := by
  obtain ⟨k, hk⟩ := (least_ev n).rounds
  exact lines_Least.calls k (n.f0) A1 c1 (n.f1) (n.f2.f0.f0) (n.f2.f0.f1) (n.f2.f1.f0) (n.f2.f1.f1) (n.f2.f2.f0) (n.f2.f2.f1) (n.f2.f2.f2) (n.f2.f2.f3) (n.f2.f3.f0.f0) (n.f2.f3.f0.f1) (n.f2.f3.f0.f2) (n.f2.f3.f1.f0) (n.f2.f3.f1.f1) (n.f2.f3.f1.f2) (n.f2.f3.f2.f0) (n.f2.f3.f2.f1) (n.f2.f3.f2.f2) (n.f2.f3.f3.f0) (n.f2.f3.f3.f1) (n.f2.f3.f3.f2) (n.f2.f4) (n.f2.f5) (n.f2.f6) (n.f2.f7) (n.f2.f8) (n.f2.f9.f0) (n.f2.f9.f1) (n.f2.f10) (n.f2.f11) A3 c3 (n.f3) (n.f4) (n.f5) _ _ w hr1 hc1 hr3 hc3 hk

theorem rleast_any (A1 : Option Addr) (c1 : Nat) (A3 : Option Addr) (c3 : Nat) (n : Nd) (w : World) (hr1 : Kd.C (Kd.int .i64) w A1 n.f1.length n.f1) (hc1 : n.f1.length ≤ c1) (hr3 : Kd.C (Kd.int .i64) w A3 n.f3.length n.f3) (hc3 : n.f3.length ≤ c3) (hR : rightB n = true) :
    Calls Try.prog 22 #[.agg (nodeC A1 c1 A3 c3 n)] w fun e w' => e = .returned (.int .i64 (n.f3.foldl mx 0)) ∧ Below w.heap.size w w' := by
  obtain ⟨k, hk⟩ := (rleast_ev n hR).rounds
  exact purflingref08_Least.calls k (n.f0) A1 c1 (n.f1) (n.f2.f0.f0) (n.f2.f0.f1) (n.f2.f1.f0) (n.f2.f1.f1) (n.f2.f2.f0) (n.f2.f2.f1) (n.f2.f2.f2) (n.f2.f2.f3) (n.f2.f3.f0.f0) (n.f2.f3.f0.f1) (n.f2.f3.f0.f2) (n.f2.f3.f1.f0) (n.f2.f3.f1.f1) (n.f2.f3.f1.f2) (n.f2.f3.f2.f0) (n.f2.f3.f2.f1) (n.f2.f3.f2.f2) (n.f2.f3.f3.f0) (n.f2.f3.f3.f1) (n.f2.f3.f3.f2) (n.f2.f4) (n.f2.f5) (n.f2.f6) (n.f2.f7) (n.f2.f8) (n.f2.f9.f0) (n.f2.f9.f1) (n.f2.f10) (n.f2.f11) A3 c3 (n.f3) (n.f4) (n.f5) _ w hr1 hc1 hr3 hc3 hk

theorem rmost_any (A1 : Option Addr) (c1 : Nat) (A3 : Option Addr) (c3 : Nat) (n : Nd) (w : World) (hr1 : Kd.C (Kd.int .i64) w A1 n.f1.length n.f1) (hc1 : n.f1.length ≤ c1) (hr3 : Kd.C (Kd.int .i64) w A3 n.f3.length n.f3) (hc3 : n.f3.length ≤ c3) (hR : rightB n = true) :
    Calls Try.prog 23 #[.agg (nodeC A1 c1 A3 c3 n)] w fun e w' => e = .returned (.int .i64 (wideP n.f3 n.f4 0 n.f3.length)) ∧ Below w.heap.size w w' := by
  obtain ⟨k, hk⟩ := (rmost_ev n hR).rounds
  exact purflingref08_Most.calls k (n.f0) A1 c1 (n.f1) (n.f2.f0.f0) (n.f2.f0.f1) (n.f2.f1.f0) (n.f2.f1.f1) (n.f2.f2.f0) (n.f2.f2.f1) (n.f2.f2.f2) (n.f2.f2.f3) (n.f2.f3.f0.f0) (n.f2.f3.f0.f1) (n.f2.f3.f0.f2) (n.f2.f3.f1.f0) (n.f2.f3.f1.f1) (n.f2.f3.f1.f2) (n.f2.f3.f2.f0) (n.f2.f3.f2.f1) (n.f2.f3.f2.f2) (n.f2.f3.f3.f0) (n.f2.f3.f3.f1) (n.f2.f3.f3.f2) (n.f2.f4) (n.f2.f5) (n.f2.f6) (n.f2.f7) (n.f2.f8) (n.f2.f9.f0) (n.f2.f9.f1) (n.f2.f10) (n.f2.f11) A3 c3 (n.f3) (n.f4) (n.f5) _ w hr1 hc1 hr3 hc3 hk

theorem break_any (A1 : Option Addr) (c1 : Nat) (A3 : Option Addr) (c3 : Nat) (n : Nd) (width : Int) (w : World) (hr1 : Kd.C (Kd.int .i64) w A1 n.f1.length n.f1) (hc1 : n.f1.length ≤ c1) (hr3 : Kd.C (Kd.int .i64) w A3 n.f3.length n.f3) (hc3 : n.f3.length ≤ c3) :
    Calls Try.prog 12 #[.agg (nodeC A1 c1 A3 c3 n), .int .i64 width] w fun e w' => ∃ A c, e = .returned (.tuple #[.slice A (linesE n width).1.length c, .int .i64 (linesE n width).2]) ∧ Kd.R k57 57 w' w.heap.size (fun _ => True) (.slice A (linesE n width).1.length c) ((linesE n width).1.map lineS) ∧ Below w.heap.size w w' := by
  unfold linesE
  by_cases hR : rightB n = true
  · rw [if_pos hR]
    refine (break_yes A1 c1 A3 c3 n width w hr1 hc1 hr3 hc3 hR).mono ?_
    rintro e w' ⟨v, rfl, h, hb⟩
    obtain ⟨A, c, rfl⟩ := Kd.R_slice h
    rw [List.length_map] at *
    exact ⟨A, c, rfl, h, hb⟩
  · rw [if_neg hR]
    refine (break_no A1 c1 A3 c3 n width w hr1 hc1 hr3 hc3 (by simpa using hR)).mono ?_
    rintro e w' ⟨rfl, hb⟩
    exact ⟨none, 0, rfl, Kd.R_nil _ _ _ _ _, hb⟩

theorem box_one (a b c d : Int) (h : Bool) : (#[.int .i64 a, .int .i64 b, .int .i64 c, .int .i64 d, .bool h] : Array Value).all (·.oneCell') = true := by
  have := all_oneCell_toArray (cs := [.int .i64 a, .int .i64 b, .int .i64 c, .int .i64 d, .bool h]) (by
    intro v hv
    simp only [List.mem_cons, List.not_mem_nil, or_false] at hv
    repeat (first | (rcases hv with rfl | hv; rfl) | (subst hv; rfl)))
  exact this
theorem box_len (a b c d : Int) (h : Bool) : (Try.prog.info? 43).map (·.size) = some (#[.int .i64 a, .int .i64 b, .int .i64 c, .int .i64 d, .bool h] : Array Value).size := by kernel_rfl
theorem box_len2 (a b c d : Int) (h : Bool) : (Try.prog.info? 43).map (·.size) = some [Value.int .i64 a, .int .i64 b, .int .i64 c, .int .i64 d, .bool h].length := by kernel_rfl
set_option maxRecDepth 100000 in
set_option maxHeartbeats 4000000 in
theorem box_no (A1 : Option Addr) (c1 : Nat) (A3 : Option Addr) (c3 : Nat) (n : Nd) (width : Int) (w : World) (hr1 : Kd.C (Kd.int .i64) w A1 n.f1.length n.f1) (hc1 : n.f1.length ≤ c1) (hr3 : Kd.C (Kd.int .i64) w A3 n.f3.length n.f3) (hc3 : n.f3.length ≤ c3) (hR : rightB n = false) :
    Calls Try.prog 13 #[.agg (nodeC A1 c1 A3 c3 n), .int .i64 width] w fun e w' => e = .returned (.tuple #[.agg boxZ, .int .i64 90]) ∧ Below w.heap.size w w' := by
  have hlen : (Try.prog.info? 35).map (·.size) = some (nodeC A1 c1 A3 c3 n).toList.length := by kernel_rfl
  have HLEN := Lib.hid hlen
  have hbk := fun (V : World) (hV : Below w.heap.size w V) => break_no A1 c1 A3 c3 n width V (Kd.C_below hr1 hV) hc1 (Kd.C_below hr3 hV) hc3 hR
  have HBRK := Lib.hid hbk
  clear hbk
  clear hr1 hr3 hc1 hc3 hlen
  generalize nodeC A1 c1 A3 c3 n = cs at *
  go_enter Try.func13, Try.ntmps13
  go_upto_region 1 with fail
  have hb1 : Below w.heap.size w ((w.alloc (.cells cs 35)).alloc (.cells boxZ 43)) := ((Below.refl _ w).alloc (Nat.le_refl _) _).alloc (by simp) _
  have hk1 : Blk ((w.alloc (.cells cs 35)).alloc (.cells boxZ 43)) w.heap.size 35 cs := Blk.alloc (Blk.new w _ _) _
  have hk2 : Blk ((w.alloc (.cells cs 35)).alloc (.cells boxZ 43)) (w.heap.size + 1) 43 boxZ := by
    have := Blk.new (w.alloc (.cells cs 35)) 43 boxZ
    rwa [World.size_alloc] at this
  have HB := Lib.hid hb1
  have HK1 := Lib.hid hk1
  have HK2 := Lib.hid hk2
  clear hb1 hk1 hk2
  change Code.wp _ _ _ _ ((w.alloc (.cells cs 35)).alloc (.cells boxZ 43)) at ⊢
  generalize ((w.alloc (.cells cs 35)).alloc (.cells boxZ 43)) = W0 at HB HK1 HK2 ⊢
  have hrow := Blk.range HK1.out
  have hT := Blk.there HK2.out 5 (Nat.le_refl _)
  go_wp2_with (first | (refine wpList_load_mid rfl 35 _ rfl _ _ rfl _ _ hrow Try.underlying35 rfl HLEN.out ?_) | (go_at_call 12; refine (HBRK.out _ HB.out).mono ?_; rintro e w1 ⟨rfl, hb⟩; have n_HK1 := Lib.hid (Blk.below HK1.out hb (Blk.lt HK1.out)); have n_HK2 := Lib.hid (Blk.below HK2.out hb (Blk.lt HK2.out)); have n_HB := Lib.hid (HB.out.trans (hb.mono HB.out.size)); clear hb HB HK1 HK2; have HK1 := n_HK1; have HK2 := n_HK2; have HB := n_HB; clear n_HB n_HK1 n_HK2; replace hrow := Blk.range HK1.out; replace hT := Blk.there HK2.out 5 (Nat.le_refl _)) | (refine wpList_store_mid rfl 43 _ _ rfl (w.heap.size + 1) 0 boxZ rfl rfl hT (box_len ..) (box_one ..) ?_; have hZ4 := HK2.out.setCells boxZ.toList rfl; have hB5 := below_setCells' (b := w.heap.size + 1) (by omega) boxZ.toList 0 HB.out; generalize World.setCells _ (w.heap.size + 1) 0 boxZ.toList = W5 at hZ4 hB5 ⊢; have HZ4 := Lib.hid hZ4; clear hZ4 hT))
  (try simp only [Exit.inBlock, Exit.then])
  refine bodyPost_ret (v := .tuple #[.agg boxZ, .int .i64 90]) ?_ rfl ⟨rfl, hB5⟩
  exact results_cell_tmp_mid Try.results13 _ _ (w.heap.size + 1) 0 boxZ.toList _ rfl HZ4.out.range Try.underlying43 rfl (by kernel_rfl)

set_option maxRecDepth 100000 in
set_option maxHeartbeats 4000000 in
theorem box_pos (A1 : Option Addr) (c1 : Nat) (A3 : Option Addr) (c3 : Nat) (n : Nd) (width : Int) (w : World) (hr1 : Kd.C (Kd.int .i64) w A1 n.f1.length n.f1) (hc1 : n.f1.length ≤ c1) (hr3 : Kd.C (Kd.int .i64) w A3 n.f3.length n.f3) (hc3 : n.f3.length ≤ c3) (hR : rightB n = true) (hnl : 0 < (linesP n width).length) :
    Calls Try.prog 13 #[.agg (nodeC A1 c1 A3 c3 n), .int .i64 width] w fun e w' => e = .returned (.tuple #[.agg #[.int .i64 (n.f3.foldl mx 0), .int .i64 (wideP n.f3 n.f4 0 n.f3.length), .int .i64 (n.f5 * ((linesP n width).length : Int)), .int .i64 (n.f5 - n.f5 / 4), .bool true], .int .i64 0]) ∧ Below w.heap.size w w' := by
  have hlen : (Try.prog.info? 35).map (·.size) = some (nodeC A1 c1 A3 c3 n).toList.length := by kernel_rfl
  have HLEN := Lib.hid hlen
  have hbk := fun (V : World) (hV : Below w.heap.size w V) => break_any A1 c1 A3 c3 n width V (Kd.C_below hr1 hV) hc1 (Kd.C_below hr3 hV) hc3
  have HBRK0 := Lib.hid hbk
  clear hbk
  have hbk := fun (V : World) (hV : Below w.heap.size w V) => least_any A1 c1 A3 c3 n V (Kd.C_below hr1 hV) hc1 (Kd.C_below hr3 hV) hc3
  have HLST0 := Lib.hid hbk
  clear hbk
  have hbk := fun (V : World) (hV : Below w.heap.size w V) => most_any A1 c1 A3 c3 n V (Kd.C_below hr1 hV) hc1 (Kd.C_below hr3 hV) hc3
  have HMST0 := Lib.hid hbk
  clear hbk
  obtain ⟨-, hl, -, h5, -⟩ := right_facts hR
  have hmul := fun V : World => fixed_Mul.calls 1 n.f5 ((linesP n width).length : Int) _ V (mul_small 0 n.f5 ((linesP n width).length : Int) (by omega) (by have := Nat.le_trans (linesN_len n.f3 n.f4 width n.f3.length 0) hl; unfold linesP; omega))
  have HMUL := Lib.hid hmul
  have q33 : (nodeC A1 c1 A3 c3 n)[33]? = some (.int .i64 n.f5) := rfl
  have Q33 := Lib.hid q33
  have he1 : linesE n width = (linesP n width, 0) := by unfold linesE; rw [if_pos hR]
  have he2 : leastP n = (n.f3.foldl mx 0, 0) := by unfold leastP; rw [if_pos hR]
  have he3 : widesP n 0 n.f3.length = (wideP n.f3 n.f4 0 n.f3.length, 0) := by
    unfold widesP placesB; rw [hR, decide_eq_true (Int.le_refl 0), decide_eq_true (show (0 : Int) ≤ n.f3.length by omega), decide_eq_true (Int.le_refl _)]; rfl
  rw [he1] at HBRK0
  rw [he2] at HLST0
  rw [he3] at HMST0
  dsimp only at HBRK0 HLST0 HMST0
  have hdec : decide (0 < (linesP n width).length) = true := decide_eq_true (by omega)
  clear he1 he2 he3 hr1 hr3 hc1 hc3 hlen hmul q33 hl hR
  generalize nodeC A1 c1 A3 c3 n = cs at *
  generalize n.f3.foldl mx 0 = lst at *
  generalize wideP n.f3 n.f4 0 n.f3.length = mst at *
  generalize n.f5 = hi at *
  have HBRK := Lib.hid (fun V hV => (HBRK0.out V hV).mono (R' := fun e w' => ∃ A c, e = .returned (.tuple #[.slice A (linesP n width).length c, .int .i64 0]) ∧ Below V.heap.size V w') (by rintro e w' ⟨A, c, rfl, -, hb⟩; exact ⟨A, c, rfl, hb⟩))
  clear HBRK0
  generalize (linesP n width).length = nl at *
  generalize hi * (nl : Int) = pr at *
  have HLST := HLST0
  have HMST := HMST0
  clear HLST0 HMST0 hnl
  go_enter Try.func13, Try.ntmps13
  go_upto_region 1 with fail
  have hb1 : Below w.heap.size w ((w.alloc (.cells cs 35)).alloc (.cells boxZ 43)) := ((Below.refl _ w).alloc (Nat.le_refl _) _).alloc (by simp) _
  have hk1 : Blk ((w.alloc (.cells cs 35)).alloc (.cells boxZ 43)) w.heap.size 35 cs := Blk.alloc (Blk.new w _ _) _
  have hk2 : Blk ((w.alloc (.cells cs 35)).alloc (.cells boxZ 43)) (w.heap.size + 1) 43 boxZ := by
    have := Blk.new (w.alloc (.cells cs 35)) 43 boxZ
    rwa [World.size_alloc] at this
  have HB := Lib.hid hb1
  have HK1 := Lib.hid hk1
  have HK2 := Lib.hid hk2
  clear hb1 hk1 hk2
  change Code.wp _ _ _ _ ((w.alloc (.cells cs 35)).alloc (.cells boxZ 43)) at ⊢
  generalize ((w.alloc (.cells cs 35)).alloc (.cells boxZ 43)) = W0 at HB HK1 HK2 ⊢
  have hrow := Blk.range HK1.out
  go_upto_region 4 with (first | (refine wpList_load_mid rfl 35 _ rfl _ _ rfl _ _ hrow Try.underlying35 rfl HLEN.out ?_) | (go_at_call 12; refine (HBRK.out _ HB.out).mono ?_; rintro e w1 ⟨A, c, rfl, hb⟩; have n_HK1 := Lib.hid (Blk.below HK1.out hb (Blk.lt HK1.out)); have n_HK2 := Lib.hid (Blk.below HK2.out hb (Blk.lt HK2.out)); have n_HB := Lib.hid (HB.out.trans (hb.mono HB.out.size)); clear hb HB HK1 HK2; have HK1 := n_HK1; have HK2 := n_HK2; have HB := n_HB; clear n_HB n_HK1 n_HK2; replace hrow := Blk.range HK1.out))
  go_upto_region 5 with fail
  have hN : w.heap.size + 1 < w1.heap.size := Blk.lt HK2.out
  have HKN := Lib.hid (Blk.new w1 43 boxZ)
  have n_HK1 := Lib.hid (Blk.alloc HK1.out (.cells boxZ 43))
  have n_HK2 := Lib.hid (Blk.alloc HK2.out (.cells boxZ 43))
  have n_HB := Lib.hid (HB.out.alloc HB.out.size (.cells boxZ 43))
  clear HK1 HK2 HB hrow
  have HK1 := n_HK1; have HK2 := n_HK2; have HB := n_HB
  clear n_HK1 n_HK2 n_HB
  change Code.wp _ _ _ _ (w1.alloc (.cells boxZ 43)) at ⊢
  generalize w1.alloc (.cells boxZ 43) = W2 at HKN HK1 HK2 HB ⊢
  generalize w1.heap.size = N at *
  have HN := Lib.hid hN
  clear hN
  have hrow := Blk.range HK1.out
  go_upto_region 6 with (first | (refine wpList_load_mid rfl 35 _ rfl _ _ rfl _ _ hrow Try.underlying35 rfl HLEN.out ?_) | (go_at_call 20; refine (HLST.out _ HB.out).mono ?_; rintro e w3 ⟨rfl, hb⟩; have n_HK1 := Lib.hid (Blk.below HK1.out hb (Blk.lt HK1.out)); have n_HK2 := Lib.hid (Blk.below HK2.out hb (Blk.lt HK2.out)); have n_HKN := Lib.hid (Blk.below HKN.out hb (Blk.lt HKN.out)); have n_HB := Lib.hid (HB.out.trans (hb.mono HB.out.size)); clear hb HB HK1 HK2 HKN; have HK1 := n_HK1; have HK2 := n_HK2; have HKN := n_HKN; have HB := n_HB; clear n_HB n_HK1 n_HK2 n_HKN; replace hrow := Blk.range HK1.out; have y0_ : World.cell? _ ⟨N, 0, none⟩ = some (.int .i64 0) := Blk.cell HKN.out 0; have f0_ := Blk.frozen HKN.out 0; have l0_ := Blk.lt HKN.out))
  have n_HKN := Lib.hid (Blk.set' HKN.out 0 (.int .i64 lst) (cs' := #[.int .i64 lst, .int .i64 0, .int .i64 0, .int .i64 0, .bool false]) rfl)
  have n_HK1 := Lib.hid (Blk.other HK1.out (p := ⟨N, 0, none⟩) (by have := HN.out; show w.heap.size ≠ N; omega) (.int .i64 lst))
  have n_HK2 := Lib.hid (Blk.other HK2.out (p := ⟨N, 0, none⟩) (by have := HN.out; show w.heap.size + 1 ≠ N; omega) (.int .i64 lst))
  have n_HB := Lib.hid (HB.out.setCell (p := ⟨N, 0, none⟩) (by have := HN.out; show w.heap.size ≤ N; omega) (.int .i64 lst))
  clear HKN HK1 HK2 HB hrow
  (try clear y0_ f0_ l0_)
  have HKN := n_HKN; have HK1 := n_HK1; have HK2 := n_HK2; have HB := n_HB
  clear n_HKN n_HK1 n_HK2 n_HB
  generalize World.setCell _ ⟨N, 0, none⟩ (.int .i64 lst) = W4 at HKN HK1 HK2 HB ⊢
  have hrow := Blk.range HK1.out
  go_upto_region 7 with (first | (refine wpList_load_mid rfl 35 _ rfl _ _ rfl _ _ hrow Try.underlying35 rfl HLEN.out ?_) | (go_at_call 21; refine (HMST.out _ HB.out).mono ?_; rintro e w5 ⟨rfl, hb⟩; have n_HK1 := Lib.hid (Blk.below HK1.out hb (Blk.lt HK1.out)); have n_HK2 := Lib.hid (Blk.below HK2.out hb (Blk.lt HK2.out)); have n_HKN := Lib.hid (Blk.below HKN.out hb (Blk.lt HKN.out)); have n_HB := Lib.hid (HB.out.trans (hb.mono HB.out.size)); clear hb HB HK1 HK2 HKN; have HK1 := n_HK1; have HK2 := n_HK2; have HKN := n_HKN; have HB := n_HB; clear n_HB n_HK1 n_HK2 n_HKN; replace hrow := Blk.range HK1.out; have y0_ : World.cell? _ ⟨N, 1, none⟩ = some (.int .i64 0) := Blk.cell HKN.out 1; have f0_ := Blk.frozen HKN.out 1; have l0_ := Blk.lt HKN.out))
  have n_HKN := Lib.hid (Blk.set' HKN.out 1 (.int .i64 mst) (cs' := #[.int .i64 lst, .int .i64 mst, .int .i64 0, .int .i64 0, .bool false]) rfl)
  have n_HK1 := Lib.hid (Blk.other HK1.out (p := ⟨N, 1, none⟩) (by have := HN.out; show w.heap.size ≠ N; omega) (.int .i64 mst))
  have n_HK2 := Lib.hid (Blk.other HK2.out (p := ⟨N, 1, none⟩) (by have := HN.out; show w.heap.size + 1 ≠ N; omega) (.int .i64 mst))
  have n_HB := Lib.hid (HB.out.setCell (p := ⟨N, 1, none⟩) (by have := HN.out; show w.heap.size ≤ N; omega) (.int .i64 mst))
  clear HKN HK1 HK2 HB hrow
  (try clear y0_ f0_ l0_)
  have HKN := n_HKN; have HK1 := n_HK1; have HK2 := n_HK2; have HB := n_HB
  clear n_HKN n_HK1 n_HK2 n_HB
  generalize World.setCell _ ⟨N, 1, none⟩ (.int .i64 mst) = W6 at HKN HK1 HK2 HB ⊢
  have hrow := Blk.range HK1.out
  have y33 : W6.cell? ⟨w.heap.size, 33, none⟩ = some (.int .i64 hi) := (Blk.cell HK1.out 33).trans Q33.out
  go_upto_region 8 with (go_at_call 26; refine (HMUL.out _).mono ?_; rintro e w7 ⟨rfl, hb⟩; clear y33; have n_HK1 := Lib.hid (Blk.below HK1.out hb (Blk.lt HK1.out)); have n_HK2 := Lib.hid (Blk.below HK2.out hb (Blk.lt HK2.out)); have n_HKN := Lib.hid (Blk.below HKN.out hb (Blk.lt HKN.out)); have n_HB := Lib.hid (HB.out.trans (hb.mono HB.out.size)); clear hb HB HK1 HK2 HKN; have HK1 := n_HK1; have HK2 := n_HK2; have HKN := n_HKN; have HB := n_HB; clear n_HB n_HK1 n_HK2 n_HKN; replace hrow := Blk.range HK1.out; have y0_ : World.cell? _ ⟨N, 2, none⟩ = some (.int .i64 0) := Blk.cell HKN.out 2; have f0_ := Blk.frozen HKN.out 2; have l0_ := Blk.lt HKN.out)
  have n_HKN := Lib.hid (Blk.set' HKN.out 2 (.int .i64 pr) (cs' := #[.int .i64 lst, .int .i64 mst, .int .i64 pr, .int .i64 0, .bool false]) rfl)
  have n_HK1 := Lib.hid (Blk.other HK1.out (p := ⟨N, 2, none⟩) (by have := HN.out; show w.heap.size ≠ N; omega) (.int .i64 pr))
  have n_HK2 := Lib.hid (Blk.other HK2.out (p := ⟨N, 2, none⟩) (by have := HN.out; show w.heap.size + 1 ≠ N; omega) (.int .i64 pr))
  have n_HB := Lib.hid (HB.out.setCell (p := ⟨N, 2, none⟩) (by have := HN.out; show w.heap.size ≤ N; omega) (.int .i64 pr))
  clear HKN HK1 HK2 HB hrow
  (try clear y0_ f0_ l0_)
  have HKN := n_HKN; have HK1 := n_HK1; have HK2 := n_HK2; have HB := n_HB
  clear n_HKN n_HK1 n_HK2 n_HB
  generalize World.setCell _ ⟨N, 2, none⟩ (.int .i64 pr) = W8 at HKN HK1 HK2 HB ⊢
  have hrow := Blk.range HK1.out
  have y0_ : World.cell? _ ⟨N, 4, none⟩ = some (.bool false) := Blk.cell HKN.out 4
  have f0_ := Blk.frozen HKN.out 4
  have l0_ := Blk.lt HKN.out
  go_upto_region 9 with fail
  have n_HKN := Lib.hid (Blk.set' HKN.out 4 (.bool true) (cs' := #[.int .i64 lst, .int .i64 mst, .int .i64 pr, .int .i64 0, .bool true]) rfl)
  have n_HK1 := Lib.hid (Blk.other HK1.out (p := ⟨N, 4, none⟩) (by have := HN.out; show w.heap.size ≠ N; omega) (.bool true))
  have n_HK2 := Lib.hid (Blk.other HK2.out (p := ⟨N, 4, none⟩) (by have := HN.out; show w.heap.size + 1 ≠ N; omega) (.bool true))
  have n_HB := Lib.hid (HB.out.setCell (p := ⟨N, 4, none⟩) (by have := HN.out; show w.heap.size ≤ N; omega) (.bool true))
  clear HKN HK1 HK2 HB hrow
  (try clear y0_ f0_ l0_)
  have HKN := n_HKN; have HK1 := n_HK1; have HK2 := n_HK2; have HB := n_HB
  clear n_HKN n_HK1 n_HK2 n_HB
  generalize World.setCell _ ⟨N, 4, none⟩ (.bool true) = W9 at HKN HK1 HK2 HB ⊢
  have hrow := Blk.range HK1.out
  have y0_ : World.cell? _ ⟨N, 4, none⟩ = some (.bool true) := Blk.cell HKN.out 4
  have f0_ := Blk.frozen HKN.out 4
  have l0_ := Blk.lt HKN.out
  go_upto_region 10 with fail
  clear y0_ f0_ l0_
  have y33 : W9.cell? ⟨w.heap.size, 33, none⟩ = some (.int .i64 hi) := (Blk.cell HK1.out 33).trans Q33.out
  have y0_ : World.cell? _ ⟨N, 3, none⟩ = some (.int .i64 0) := Blk.cell HKN.out 3
  have f0_ := Blk.frozen HKN.out 3
  have l0_ := Blk.lt HKN.out
  have hq1 : Int.tdiv hi 4 = hi / 4 := Int.tdiv_eq_ediv_of_nonneg h5.1
  have hq2 : IntKind.i64.wrap (hi / 4) = hi / 4 := IntWalk.i64_in _ (by omega)
  have hq3 : IntKind.i64.wrap (hi - hi / 4) = hi - hi / 4 := IntWalk.i64_in _ (by omega)
  go_upto_region 11 with fail
  clear y33
  have n_HKN := Lib.hid (Blk.set' HKN.out 3 (.int .i64 (hi - hi / 4)) (cs' := #[.int .i64 lst, .int .i64 mst, .int .i64 pr, .int .i64 (hi - hi / 4), .bool true]) rfl)
  have n_HK1 := Lib.hid (Blk.other HK1.out (p := ⟨N, 3, none⟩) (by have := HN.out; show w.heap.size ≠ N; omega) (.int .i64 (hi - hi / 4)))
  have n_HK2 := Lib.hid (Blk.other HK2.out (p := ⟨N, 3, none⟩) (by have := HN.out; show w.heap.size + 1 ≠ N; omega) (.int .i64 (hi - hi / 4)))
  have n_HB := Lib.hid (HB.out.setCell (p := ⟨N, 3, none⟩) (by have := HN.out; show w.heap.size ≤ N; omega) (.int .i64 (hi - hi / 4)))
  clear HKN HK1 HK2 HB hrow
  (try clear y0_ f0_ l0_)
  have HKN := n_HKN; have HK1 := n_HK1; have HK2 := n_HK2; have HB := n_HB
  clear n_HKN n_HK1 n_HK2 n_HB
  generalize World.setCell _ ⟨N, 3, none⟩ (.int .i64 (hi - hi / 4)) = W10 at HKN HK1 HK2 HB ⊢
  have hrow := Blk.range HK1.out
  obtain ⟨fc, hfc⟩ : ∃ fc : Array Value, fc = #[.int .i64 lst, .int .i64 mst, .int .i64 pr, .int .i64 (hi - hi / 4), .bool true] := ⟨_, rfl⟩
  have HF1 := Lib.hid (box_len lst mst pr (hi - hi / 4) true)
  have HF2 := Lib.hid (box_one lst mst pr (hi - hi / 4) true)
  rw [← hfc] at HKN HF1 HF2
  have HFS := Lib.hid (show fc.size = 5 by rw [hfc]; rfl)
  have HFL : Hid ((Try.prog.info? 43).map (·.size) = some fc.toList.length) := Lib.hid (by rw [HF1.out, Array.length_toList])
  replace hrow := Blk.range HKN.out
  have hT := Blk.there HK2.out fc.size (by rw [HFS.out]; exact Nat.le_refl _)
  go_wp2_with (first | (refine wpList_load_mid rfl 43 _ rfl _ _ rfl _ _ hrow Try.underlying43 rfl HFL.out ?_) | (refine wpList_store_mid rfl 43 _ _ rfl (w.heap.size + 1) 0 fc rfl rfl hT HF1.out HF2.out ?_; have hZ4 := HK2.out.setCells fc.toList (by rw [Array.length_toList, HFS.out]; rfl); have hB5 := below_setCells' (b := w.heap.size + 1) (by omega) fc.toList 0 HB.out; generalize World.setCells _ (w.heap.size + 1) 0 fc.toList = W11 at hZ4 hB5 ⊢; have HZ4 := Lib.hid hZ4; clear hZ4 hT hrow))
  (try simp only [Exit.inBlock, Exit.then])
  refine bodyPost_ret (v := .tuple #[.agg fc, .int .i64 0]) ?_ rfl ⟨by rw [hfc], hB5⟩
  rw [show Value.agg fc = .agg fc.toList.toArray by rw [Array.toArray_toList]]
  exact results_cell_tmp_mid Try.results13 _ _ (w.heap.size + 1) 0 fc.toList _ rfl HZ4.out.range Try.underlying43 rfl HFL.out

set_option maxRecDepth 100000 in
set_option maxHeartbeats 4000000 in
theorem box_none (A1 : Option Addr) (c1 : Nat) (A3 : Option Addr) (c3 : Nat) (n : Nd) (width : Int) (w : World) (hr1 : Kd.C (Kd.int .i64) w A1 n.f1.length n.f1) (hc1 : n.f1.length ≤ c1) (hr3 : Kd.C (Kd.int .i64) w A3 n.f3.length n.f3) (hc3 : n.f3.length ≤ c3) (hR : rightB n = true) (hnl : (linesP n width).length = 0) :
    Calls Try.prog 13 #[.agg (nodeC A1 c1 A3 c3 n), .int .i64 width] w fun e w' => e = .returned (.tuple #[.agg #[.int .i64 (n.f3.foldl mx 0), .int .i64 (wideP n.f3 n.f4 0 n.f3.length), .int .i64 (n.f5 * ((linesP n width).length : Int)), .int .i64 0, .bool false], .int .i64 0]) ∧ Below w.heap.size w w' := by
  have hlen : (Try.prog.info? 35).map (·.size) = some (nodeC A1 c1 A3 c3 n).toList.length := by kernel_rfl
  have HLEN := Lib.hid hlen
  have hbk := fun (V : World) (hV : Below w.heap.size w V) => break_any A1 c1 A3 c3 n width V (Kd.C_below hr1 hV) hc1 (Kd.C_below hr3 hV) hc3
  have HBRK0 := Lib.hid hbk
  clear hbk
  have hbk := fun (V : World) (hV : Below w.heap.size w V) => least_any A1 c1 A3 c3 n V (Kd.C_below hr1 hV) hc1 (Kd.C_below hr3 hV) hc3
  have HLST0 := Lib.hid hbk
  clear hbk
  have hbk := fun (V : World) (hV : Below w.heap.size w V) => most_any A1 c1 A3 c3 n V (Kd.C_below hr1 hV) hc1 (Kd.C_below hr3 hV) hc3
  have HMST0 := Lib.hid hbk
  clear hbk
  obtain ⟨-, hl, -, h5, -⟩ := right_facts hR
  have hmul := fun V : World => fixed_Mul.calls 1 n.f5 ((linesP n width).length : Int) _ V (mul_small 0 n.f5 ((linesP n width).length : Int) (by omega) (by have := Nat.le_trans (linesN_len n.f3 n.f4 width n.f3.length 0) hl; unfold linesP; omega))
  have HMUL := Lib.hid hmul
  have q33 : (nodeC A1 c1 A3 c3 n)[33]? = some (.int .i64 n.f5) := rfl
  have Q33 := Lib.hid q33
  have he1 : linesE n width = (linesP n width, 0) := by unfold linesE; rw [if_pos hR]
  have he2 : leastP n = (n.f3.foldl mx 0, 0) := by unfold leastP; rw [if_pos hR]
  have he3 : widesP n 0 n.f3.length = (wideP n.f3 n.f4 0 n.f3.length, 0) := by
    unfold widesP placesB; rw [hR, decide_eq_true (Int.le_refl 0), decide_eq_true (show (0 : Int) ≤ n.f3.length by omega), decide_eq_true (Int.le_refl _)]; rfl
  rw [he1] at HBRK0
  rw [he2] at HLST0
  rw [he3] at HMST0
  dsimp only at HBRK0 HLST0 HMST0
  have hdec : decide (0 < (linesP n width).length) = false := decide_eq_false (by omega)
  clear he1 he2 he3 hr1 hr3 hc1 hc3 hlen hmul q33 hl hR
  generalize nodeC A1 c1 A3 c3 n = cs at *
  generalize n.f3.foldl mx 0 = lst at *
  generalize wideP n.f3 n.f4 0 n.f3.length = mst at *
  generalize n.f5 = hi at *
  have HBRK := Lib.hid (fun V hV => (HBRK0.out V hV).mono (R' := fun e w' => ∃ A c, e = .returned (.tuple #[.slice A (linesP n width).length c, .int .i64 0]) ∧ Below V.heap.size V w') (by rintro e w' ⟨A, c, rfl, -, hb⟩; exact ⟨A, c, rfl, hb⟩))
  clear HBRK0
  generalize (linesP n width).length = nl at *
  generalize hi * (nl : Int) = pr at *
  have HLST := HLST0
  have HMST := HMST0
  clear HLST0 HMST0 hnl
  go_enter Try.func13, Try.ntmps13
  go_upto_region 1 with fail
  have hb1 : Below w.heap.size w ((w.alloc (.cells cs 35)).alloc (.cells boxZ 43)) := ((Below.refl _ w).alloc (Nat.le_refl _) _).alloc (by simp) _
  have hk1 : Blk ((w.alloc (.cells cs 35)).alloc (.cells boxZ 43)) w.heap.size 35 cs := Blk.alloc (Blk.new w _ _) _
  have hk2 : Blk ((w.alloc (.cells cs 35)).alloc (.cells boxZ 43)) (w.heap.size + 1) 43 boxZ := by
    have := Blk.new (w.alloc (.cells cs 35)) 43 boxZ
    rwa [World.size_alloc] at this
  have HB := Lib.hid hb1
  have HK1 := Lib.hid hk1
  have HK2 := Lib.hid hk2
  clear hb1 hk1 hk2
  change Code.wp _ _ _ _ ((w.alloc (.cells cs 35)).alloc (.cells boxZ 43)) at ⊢
  generalize ((w.alloc (.cells cs 35)).alloc (.cells boxZ 43)) = W0 at HB HK1 HK2 ⊢
  have hrow := Blk.range HK1.out
  go_upto_region 4 with (first | (refine wpList_load_mid rfl 35 _ rfl _ _ rfl _ _ hrow Try.underlying35 rfl HLEN.out ?_) | (go_at_call 12; refine (HBRK.out _ HB.out).mono ?_; rintro e w1 ⟨A, c, rfl, hb⟩; have n_HK1 := Lib.hid (Blk.below HK1.out hb (Blk.lt HK1.out)); have n_HK2 := Lib.hid (Blk.below HK2.out hb (Blk.lt HK2.out)); have n_HB := Lib.hid (HB.out.trans (hb.mono HB.out.size)); clear hb HB HK1 HK2; have HK1 := n_HK1; have HK2 := n_HK2; have HB := n_HB; clear n_HB n_HK1 n_HK2; replace hrow := Blk.range HK1.out))
  go_upto_region 5 with fail
  have hN : w.heap.size + 1 < w1.heap.size := Blk.lt HK2.out
  have HKN := Lib.hid (Blk.new w1 43 boxZ)
  have n_HK1 := Lib.hid (Blk.alloc HK1.out (.cells boxZ 43))
  have n_HK2 := Lib.hid (Blk.alloc HK2.out (.cells boxZ 43))
  have n_HB := Lib.hid (HB.out.alloc HB.out.size (.cells boxZ 43))
  clear HK1 HK2 HB hrow
  have HK1 := n_HK1; have HK2 := n_HK2; have HB := n_HB
  clear n_HK1 n_HK2 n_HB
  change Code.wp _ _ _ _ (w1.alloc (.cells boxZ 43)) at ⊢
  generalize w1.alloc (.cells boxZ 43) = W2 at HKN HK1 HK2 HB ⊢
  generalize w1.heap.size = N at *
  have HN := Lib.hid hN
  clear hN
  have hrow := Blk.range HK1.out
  go_upto_region 6 with (first | (refine wpList_load_mid rfl 35 _ rfl _ _ rfl _ _ hrow Try.underlying35 rfl HLEN.out ?_) | (go_at_call 20; refine (HLST.out _ HB.out).mono ?_; rintro e w3 ⟨rfl, hb⟩; have n_HK1 := Lib.hid (Blk.below HK1.out hb (Blk.lt HK1.out)); have n_HK2 := Lib.hid (Blk.below HK2.out hb (Blk.lt HK2.out)); have n_HKN := Lib.hid (Blk.below HKN.out hb (Blk.lt HKN.out)); have n_HB := Lib.hid (HB.out.trans (hb.mono HB.out.size)); clear hb HB HK1 HK2 HKN; have HK1 := n_HK1; have HK2 := n_HK2; have HKN := n_HKN; have HB := n_HB; clear n_HB n_HK1 n_HK2 n_HKN; replace hrow := Blk.range HK1.out; have y0_ : World.cell? _ ⟨N, 0, none⟩ = some (.int .i64 0) := Blk.cell HKN.out 0; have f0_ := Blk.frozen HKN.out 0; have l0_ := Blk.lt HKN.out))
  have n_HKN := Lib.hid (Blk.set' HKN.out 0 (.int .i64 lst) (cs' := #[.int .i64 lst, .int .i64 0, .int .i64 0, .int .i64 0, .bool false]) rfl)
  have n_HK1 := Lib.hid (Blk.other HK1.out (p := ⟨N, 0, none⟩) (by have := HN.out; show w.heap.size ≠ N; omega) (.int .i64 lst))
  have n_HK2 := Lib.hid (Blk.other HK2.out (p := ⟨N, 0, none⟩) (by have := HN.out; show w.heap.size + 1 ≠ N; omega) (.int .i64 lst))
  have n_HB := Lib.hid (HB.out.setCell (p := ⟨N, 0, none⟩) (by have := HN.out; show w.heap.size ≤ N; omega) (.int .i64 lst))
  clear HKN HK1 HK2 HB hrow
  (try clear y0_ f0_ l0_)
  have HKN := n_HKN; have HK1 := n_HK1; have HK2 := n_HK2; have HB := n_HB
  clear n_HKN n_HK1 n_HK2 n_HB
  generalize World.setCell _ ⟨N, 0, none⟩ (.int .i64 lst) = W4 at HKN HK1 HK2 HB ⊢
  have hrow := Blk.range HK1.out
  go_upto_region 7 with (first | (refine wpList_load_mid rfl 35 _ rfl _ _ rfl _ _ hrow Try.underlying35 rfl HLEN.out ?_) | (go_at_call 21; refine (HMST.out _ HB.out).mono ?_; rintro e w5 ⟨rfl, hb⟩; have n_HK1 := Lib.hid (Blk.below HK1.out hb (Blk.lt HK1.out)); have n_HK2 := Lib.hid (Blk.below HK2.out hb (Blk.lt HK2.out)); have n_HKN := Lib.hid (Blk.below HKN.out hb (Blk.lt HKN.out)); have n_HB := Lib.hid (HB.out.trans (hb.mono HB.out.size)); clear hb HB HK1 HK2 HKN; have HK1 := n_HK1; have HK2 := n_HK2; have HKN := n_HKN; have HB := n_HB; clear n_HB n_HK1 n_HK2 n_HKN; replace hrow := Blk.range HK1.out; have y0_ : World.cell? _ ⟨N, 1, none⟩ = some (.int .i64 0) := Blk.cell HKN.out 1; have f0_ := Blk.frozen HKN.out 1; have l0_ := Blk.lt HKN.out))
  have n_HKN := Lib.hid (Blk.set' HKN.out 1 (.int .i64 mst) (cs' := #[.int .i64 lst, .int .i64 mst, .int .i64 0, .int .i64 0, .bool false]) rfl)
  have n_HK1 := Lib.hid (Blk.other HK1.out (p := ⟨N, 1, none⟩) (by have := HN.out; show w.heap.size ≠ N; omega) (.int .i64 mst))
  have n_HK2 := Lib.hid (Blk.other HK2.out (p := ⟨N, 1, none⟩) (by have := HN.out; show w.heap.size + 1 ≠ N; omega) (.int .i64 mst))
  have n_HB := Lib.hid (HB.out.setCell (p := ⟨N, 1, none⟩) (by have := HN.out; show w.heap.size ≤ N; omega) (.int .i64 mst))
  clear HKN HK1 HK2 HB hrow
  (try clear y0_ f0_ l0_)
  have HKN := n_HKN; have HK1 := n_HK1; have HK2 := n_HK2; have HB := n_HB
  clear n_HKN n_HK1 n_HK2 n_HB
  generalize World.setCell _ ⟨N, 1, none⟩ (.int .i64 mst) = W6 at HKN HK1 HK2 HB ⊢
  have hrow := Blk.range HK1.out
  have y33 : W6.cell? ⟨w.heap.size, 33, none⟩ = some (.int .i64 hi) := (Blk.cell HK1.out 33).trans Q33.out
  go_upto_region 8 with (go_at_call 26; refine (HMUL.out _).mono ?_; rintro e w7 ⟨rfl, hb⟩; clear y33; have n_HK1 := Lib.hid (Blk.below HK1.out hb (Blk.lt HK1.out)); have n_HK2 := Lib.hid (Blk.below HK2.out hb (Blk.lt HK2.out)); have n_HKN := Lib.hid (Blk.below HKN.out hb (Blk.lt HKN.out)); have n_HB := Lib.hid (HB.out.trans (hb.mono HB.out.size)); clear hb HB HK1 HK2 HKN; have HK1 := n_HK1; have HK2 := n_HK2; have HKN := n_HKN; have HB := n_HB; clear n_HB n_HK1 n_HK2 n_HKN; replace hrow := Blk.range HK1.out; have y0_ : World.cell? _ ⟨N, 2, none⟩ = some (.int .i64 0) := Blk.cell HKN.out 2; have f0_ := Blk.frozen HKN.out 2; have l0_ := Blk.lt HKN.out)
  have n_HKN := Lib.hid (Blk.set' HKN.out 2 (.int .i64 pr) (cs' := #[.int .i64 lst, .int .i64 mst, .int .i64 pr, .int .i64 0, .bool false]) rfl)
  have n_HK1 := Lib.hid (Blk.other HK1.out (p := ⟨N, 2, none⟩) (by have := HN.out; show w.heap.size ≠ N; omega) (.int .i64 pr))
  have n_HK2 := Lib.hid (Blk.other HK2.out (p := ⟨N, 2, none⟩) (by have := HN.out; show w.heap.size + 1 ≠ N; omega) (.int .i64 pr))
  have n_HB := Lib.hid (HB.out.setCell (p := ⟨N, 2, none⟩) (by have := HN.out; show w.heap.size ≤ N; omega) (.int .i64 pr))
  clear HKN HK1 HK2 HB hrow
  (try clear y0_ f0_ l0_)
  have HKN := n_HKN; have HK1 := n_HK1; have HK2 := n_HK2; have HB := n_HB
  clear n_HKN n_HK1 n_HK2 n_HB
  generalize World.setCell _ ⟨N, 2, none⟩ (.int .i64 pr) = W8 at HKN HK1 HK2 HB ⊢
  have hrow := Blk.range HK1.out
  have y0_ : World.cell? _ ⟨N, 4, none⟩ = some (.bool false) := Blk.cell HKN.out 4
  have f0_ := Blk.frozen HKN.out 4
  have l0_ := Blk.lt HKN.out
  go_upto_region 9 with fail
  have n_HKN := Lib.hid (Blk.set' HKN.out 4 (.bool false) (cs' := #[.int .i64 lst, .int .i64 mst, .int .i64 pr, .int .i64 0, .bool false]) rfl)
  have n_HK1 := Lib.hid (Blk.other HK1.out (p := ⟨N, 4, none⟩) (by have := HN.out; show w.heap.size ≠ N; omega) (.bool false))
  have n_HK2 := Lib.hid (Blk.other HK2.out (p := ⟨N, 4, none⟩) (by have := HN.out; show w.heap.size + 1 ≠ N; omega) (.bool false))
  have n_HB := Lib.hid (HB.out.setCell (p := ⟨N, 4, none⟩) (by have := HN.out; show w.heap.size ≤ N; omega) (.bool false))
  clear HKN HK1 HK2 HB hrow
  (try clear y0_ f0_ l0_)
  have HKN := n_HKN; have HK1 := n_HK1; have HK2 := n_HK2; have HB := n_HB
  clear n_HKN n_HK1 n_HK2 n_HB
  generalize World.setCell _ ⟨N, 4, none⟩ (.bool false) = W9 at HKN HK1 HK2 HB ⊢
  have hrow := Blk.range HK1.out
  have y0_ : World.cell? _ ⟨N, 4, none⟩ = some (.bool false) := Blk.cell HKN.out 4
  have f0_ := Blk.frozen HKN.out 4
  have l0_ := Blk.lt HKN.out
  go_upto_region 11 with fail
  obtain ⟨fc, hfc⟩ : ∃ fc : Array Value, fc = #[.int .i64 lst, .int .i64 mst, .int .i64 pr, .int .i64 0, .bool false] := ⟨_, rfl⟩
  have HF1 := Lib.hid (box_len lst mst pr 0 false)
  have HF2 := Lib.hid (box_one lst mst pr 0 false)
  rw [← hfc] at HKN HF1 HF2
  have HFS := Lib.hid (show fc.size = 5 by rw [hfc]; rfl)
  have HFL : Hid ((Try.prog.info? 43).map (·.size) = some fc.toList.length) := Lib.hid (by rw [HF1.out, Array.length_toList])
  replace hrow := Blk.range HKN.out
  have hT := Blk.there HK2.out fc.size (by rw [HFS.out]; exact Nat.le_refl _)
  go_wp2_with (first | (refine wpList_load_mid rfl 43 _ rfl _ _ rfl _ _ hrow Try.underlying43 rfl HFL.out ?_) | (refine wpList_store_mid rfl 43 _ _ rfl (w.heap.size + 1) 0 fc rfl rfl hT HF1.out HF2.out ?_; have hZ4 := HK2.out.setCells fc.toList (by rw [Array.length_toList, HFS.out]; rfl); have hB5 := below_setCells' (b := w.heap.size + 1) (by omega) fc.toList 0 HB.out; generalize World.setCells _ (w.heap.size + 1) 0 fc.toList = W11 at hZ4 hB5 ⊢; have HZ4 := Lib.hid hZ4; clear hZ4 hT hrow))
  (try simp only [Exit.inBlock, Exit.then])
  refine bodyPost_ret (v := .tuple #[.agg fc, .int .i64 0]) ?_ rfl ⟨by rw [hfc], hB5⟩
  rw [show Value.agg fc = .agg fc.toList.toArray by rw [Array.toArray_toList]]
  exact results_cell_tmp_mid Try.results13 _ _ (w.heap.size + 1) 0 fc.toList _ rfl HZ4.out.range Try.underlying43 rfl HFL.out

/-- Box's answer whole -/
def boxE (n : Nd) (width : Int) : Array Value × Int := if rightB n = true then (boxC n width, 0) else (boxZ, 90)
theorem box_any (A1 : Option Addr) (c1 : Nat) (A3 : Option Addr) (c3 : Nat) (n : Nd) (width : Int) (w : World) (hr1 : Kd.C (Kd.int .i64) w A1 n.f1.length n.f1) (hc1 : n.f1.length ≤ c1) (hr3 : Kd.C (Kd.int .i64) w A3 n.f3.length n.f3) (hc3 : n.f3.length ≤ c3) :
    Calls Try.prog 13 #[.agg (nodeC A1 c1 A3 c3 n), .int .i64 width] w fun e w' => e = .returned (.tuple #[.agg (boxE n width).1, .int .i64 (boxE n width).2]) ∧ Below w.heap.size w w' := by
  unfold boxE boxC
  by_cases hR : rightB n = true
  · rw [if_pos hR]
    by_cases hnl : 0 < (linesP n width).length
    · rw [if_pos hnl, decide_eq_true hnl]
      exact box_pos A1 c1 A3 c3 n width w hr1 hc1 hr3 hc3 hR hnl
    · rw [if_neg hnl, decide_eq_false hnl]
      exact box_none A1 c1 A3 c3 n width w hr1 hc1 hr3 hc3 hR (by omega)
  · rw [if_neg hR]
    exact box_no A1 c1 A3 c3 n width w hr1 hc1 hr3 hc3 (by simpa using hR)

end Go.Proofs.Yteckkphbgfmolaa.K