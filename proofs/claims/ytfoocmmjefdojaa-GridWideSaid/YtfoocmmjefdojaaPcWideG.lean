/- Layer 7, plain: GridWide. -/
import Derived.Test.YtfoocmmjefdojaaGp
import Derived.Test.YtfoocmmjefdojaaK10
import Derived.Test.YtfoocmmjefdojaaOpens
namespace Go.Proofs.Ytfoocmmjefdojaa.Pure
set_option linter.unusedVariables false
set_option linter.unusedSimpArgs false
open Go.RowKit Go.Proofs.Ytfoocmmjefdojaa.K Go.Proofs.YtfoocmmjefdojaaW.PrintWords Go.Proofs.YtfoocmmjefdojaaW.PrintLast Go.Proofs.YtfoocmmjefdojaaW.PrintMore

theorem shown_evW : Ev (fun k => purflinglaw07_shown.f k) true := by
  have h : purflinglaw07_shown.f 10 = some true := by decide +kernel
  exact Ev.of purflinglaw07_shown.mono h

/-- cells of m columns, one behind the other -/
def wideS (m : Int) (i : Nat) : LSt := ⟨(List.range i).map (fun (j : Nat) => (⟨0, 0, m * (j : Int), 1, m⟩ : Pl)), 0, m * i, m * i⟩
theorem wide_taken (m : Int) (i : Nat) (c : Int) (h : m * i ≤ c) (hm : 0 ≤ m) : takenT (wideS m i).ps (0, c) = false := by
  unfold takenT wideS
  rw [List.any_eq_false]
  intro p hp
  obtain ⟨j, hj, rfl⟩ := List.mem_map.1 hp
  rw [List.mem_range] at hj
  unfold inP
  have h1 : m * ((j : Int) + 1) ≤ m * i := Int.mul_le_mul_of_nonneg_left (by omega) hm
  rw [Int.mul_add, Int.mul_one] at h1
  simp; omega
theorem wideN_all (T : Int × Int → Bool) (r q cols : Int) (hT : ∀ z, 1 ≤ z → T (r, q + z) = false) : ∀ (k : Nat) (y : Int), 1 ≤ y → y ≤ cols → cols - y < k → wideN T r q cols k y = cols
  | 0, y, h0, h1, h2 => by omega
  | k + 1, y, h0, h1, h2 => by
    unfold wideN
    by_cases h : y < cols
    · rw [if_pos ⟨h, hT y h0⟩]
      exact wideN_all T r q cols hT k (y + 1) (by omega) (by omega) (by omega)
    · rw [if_neg (fun h' => h h'.1)]; omega
theorem wide_step (m : Int) (hm : 990 ≤ m ∧ m ≤ 1000) (i : Nat) (ends : List Int) (he : ends.getD 0 0 = 1) : stepP ends (wideS m i) (0, ⟨0, m, 0⟩) = wideS m (i + 1) := by
  have hf : freeN (takenT (wideS m i).ps) 0 20001 (m * i) = m * i := by
    unfold freeN
    rw [wide_taken m i _ (Int.le_refl _) (by omega)]; rfl
  have hw : wideN (takenT (wideS m i).ps) 0 (m * i) m 1001 1 = m := wideN_all _ _ _ _ (fun z hz => wide_taken m i _ (by omega) (by omega)) 1001 1 (by omega) (by omega) (by omega)
  have hp : placeP (wideS m i).ps 1 0 (m * i) ⟨0, m, 0⟩ = ⟨0, 0, m * i, 1, m⟩ := by
    unfold placeP
    dsimp only
    rw [hf, hw]; rfl
  unfold stepP
  dsimp only
  rw [he]
  have h0 : (if ((0 : Nat) : Int) = (wideS m i).at_ then (wideS m i).col else 0) = m * i := if_pos rfl
  rw [h0]
  have hp' : placeP (wideS m i).ps 1 ((0 : Nat) : Int) (m * i) ⟨0, m, 0⟩ = ⟨0, 0, m * i, 1, m⟩ := hp
  rw [hp']
  unfold wideS
  have h1 : m * (((i + 1 : Nat)) : Int) = m * i + m := by rw [Int.natCast_add, Int.mul_add]; simp
  have h2 : 0 ≤ m * (i : Int) := Int.mul_nonneg (by omega) (by omega)
  dsimp only
  rw [List.range_succ, List.map_append, h1]
  congr 1
  omega
theorem wide_run (m : Int) (hm : 990 ≤ m ∧ m ≤ 1000) (ends : List Int) (he : ends.getD 0 0 = 1) : ∀ (d i : Nat), i + d ≤ 12 → ∃ j, runP ends (List.replicate d ((0 : Nat), (⟨0, m, 0⟩ : Sp))) (wideS m i) = wideS m j ∧ (j ≤ i + d) ∧ (m * ((i + d : Nat) : Int) ≤ 10000 → j = i + d) ∧ (m * ((i + d : Nat) : Int) > 10000 → m * (i : Int) ≤ 10000 → m * (j : Int) > 10000)
  | 0, i, h => ⟨i, rfl, by omega, fun _ => rfl, fun h1 h2 => by simp at h1; omega⟩
  | d + 1, i, h => by
    rw [List.replicate_succ]
    unfold runP
    rw [wide_step m hm i ends he]
    have hmost : (wideS m (i + 1)).most = m * ((i + 1 : Nat) : Int) := rfl
    by_cases hb : (wideS m (i + 1)).most > 10000
    · rw [if_pos hb]
      refine ⟨i + 1, rfl, by omega, fun h1 => ?_, fun _ _ => by rw [← hmost]; exact hb⟩
      exfalso
      have h2 : m * ((i + 1 : Nat) : Int) ≤ m * ((i + (d + 1) : Nat) : Int) := Int.mul_le_mul_of_nonneg_left (by omega) (by omega)
      omega
    · rw [if_neg hb]
      obtain ⟨j, h1, h2, h3, h4⟩ := wide_run m hm ends he d (i + 1) (by omega)
      refine ⟨j, h1, by omega, fun h5 => ?_, fun h5 h6 => h4 ?_ ?_⟩
      · rw [h3 (by rw [show i + 1 + d = i + (d + 1) by omega]; exact h5)]; omega
      · rw [show i + 1 + d = i + (d + 1) by omega]; exact h5
      · rw [hmost] at hb; omega

theorem set_rep {α : Type} (n i : Nat) (z x : α) (h : i < n) : (List.replicate i x ++ List.replicate (n - i) z).set i x = List.replicate (i + 1) x ++ List.replicate (n - (i + 1)) z := by
  rw [List.set_append_right _ _ (by simp), List.length_replicate, Nat.sub_self, show n - i = (n - (i + 1)) + 1 by omega, List.replicate_succ, List.set_cons_zero, List.replicate_succ', List.append_assoc]; rfl
theorem cells_one (n : Nat) (c : Sp) : cellsFrom 0 [List.replicate n c] = List.replicate n ((0 : Nat), c) := by
  unfold cellsFrom cellsFrom
  rw [List.append_nil, List.map_replicate]
theorem wide_lay (n : Nat) (m : Int) (hn : n ≤ 12) (hm : 990 ≤ m ∧ m ≤ 1000) : ∃ t, grid_Lay.f [List.replicate n ⟨0, m, 0⟩] [1] = some t ∧ (m * n > 10000 → t.1 = [] ∧ t.2.2 = 43) ∧ (¬ m * n > 10000 → t.2.2 = 0 ∧ t.2.1 = m * n ∧ t.1.length = n) := by
  have hR : gridRightB [List.replicate n (⟨0, m, 0⟩ : Sp)] [1] = true := by
    unfold gridRightB
    rw [cells_one]
    simp only [List.length_cons, List.length_nil, Bool.and_eq_true, decide_eq_true_eq, List.all_eq_true]
    refine ⟨⟨by decide, fun x hx => ?_⟩, fun x hx => ?_⟩
    · simp at hx; rw [hx]; decide
    · rw [List.eq_of_mem_replicate hx]; unfold spOK; simp; omega
  obtain ⟨j, h1, h2, h3, h4⟩ := wide_run m hm [1] rfl n 0 (by omega)
  rw [Nat.zero_add] at h2 h3 h4
  have hrun : runP [1] (cellsFrom 0 [List.replicate n (⟨0, m, 0⟩ : Sp)]) ⟨[], 0, 0, 0⟩ = wideS m j := by
    rw [cells_one, ← h1]
    congr 1
    unfold wideS; simp
  refine ⟨_, by unfold grid_Lay.f; rw [if_pos hR, if_pos (by rw [cells_one, List.length_replicate]; omega), hrun], fun hb => ?_, fun hb => ?_⟩
  · have h5 : (wideS m j).most > 10000 := h4 hb (by simp)
    rw [if_pos h5]; exact ⟨rfl, rfl⟩
  · have hj := h3 (by omega)
    subst hj
    have h5 : ¬ (wideS m j).most > 10000 := hb
    rw [if_neg h5]
    exact ⟨rfl, rfl, by simp [wideS]⟩
theorem wide_l0 (n : Nat) (m : Int) (hn : n ≤ 12) (hm : 990 ≤ m ∧ m ≤ 1000) : ∀ (d i : Nat), i + d = n → Ev (fun k => purflinglaw07_GridWide.l0 k (n : Int) m true (List.replicate i ⟨0, m, 0⟩ ++ List.replicate (n - i) z34) (i : Int)) true
  | 0, i, h => by
    refine Ev.step (fun k => by rw [purflinglaw07_GridWide.l0]) (ev_neg (by omega) ?_)
    have hi : i = n := by omega
    subst hi
    rw [Nat.sub_self, List.replicate_zero, List.append_nil]
    obtain ⟨t, ht, h1, h2⟩ := wide_lay i m hn hm
    refine ev_bind (ev_const ht) ?_
    have hnm : m * (i : Int) ≤ 1000 * 12 := Int.mul_le_mul hm.2 (by omega) (by omega) (by omega)
    have hnm0 : 0 ≤ m * (i : Int) := Int.mul_nonneg (by omega) (by omega)
    rw [wrap_ok (x := (i : Int) * m) (by rw [Int.mul_comm]; omega) (by rw [Int.mul_comm]; omega), Int.mul_comm (i : Int) m]
    by_cases hb : m * (i : Int) > 10000
    · obtain ⟨h3, h4⟩ := h1 hb
      refine ev_pos hb (ev_pos rfl (ev_pos h4 (ev_now ?_)))
      rw [h3]; rfl
    · obtain ⟨h3, h4, h5⟩ := h2 hb
      refine ev_neg hb (ev_pos rfl (ev_pos h3 (ev_pos h4 (ev_now ?_))))
      rw [h5]; simp
  | d + 1, i, h => by
    refine Ev.step (fun k => by rw [purflinglaw07_GridWide.l0]) (ev_pos (by omega) (ev_pos (by omega) (ev_pos (by simp; omega) ?_)))
    rw [Int.toNat_natCast, set_rep n i _ _ (by omega), up_ok (by omega)]
    exact wide_l0 n m hn hm d (i + 1) (by omega)
theorem GridWide (a0 a1 : Int) (g0 : (Lit.int .i64 a0).wf = true) (g1 : (Lit.int .i64 a1).wf = true) : ∃ k, purflinglaw07_GridWide.f k a0 a1 = some true := by
  apply Ev.rounds
  unfold purflinglaw07_GridWide.f
  refine ev_bind shown_evW ?_
  have stop : Ev (fun k => purflinglaw07_GridWide.j0 k a0 a1 true true) true := Ev.step (fun k => by rw [purflinglaw07_GridWide.j0]) (ev_pos rfl (ev_now rfl))
  by_cases q0 : a0 < 0
  · exact ev_pos q0 stop
  refine ev_neg q0 ?_
  by_cases q1 : a0 > 12
  · exact ev_pos q1 stop
  refine ev_neg q1 ?_
  by_cases q2 : a1 < 990
  · exact ev_pos q2 stop
  refine ev_neg q2 ?_
  by_cases q3 : a1 > 1000
  · rw [decide_eq_true q3]; exact stop
  rw [decide_eq_false q3]
  obtain ⟨n, rfl⟩ := Int.eq_ofNat_of_zero_le (by omega : 0 ≤ a0)
  refine Ev.step (fun k => by rw [purflinglaw07_GridWide.j0]) (ev_neg (by decide) (ev_pos (by omega) (ev_pos (by omega) ?_)))
  have h := wide_l0 n a1 (by omega) (by omega) n 0 (by omega)
  simpa using h
end Go.Proofs.Ytfoocmmjefdojaa.Pure
