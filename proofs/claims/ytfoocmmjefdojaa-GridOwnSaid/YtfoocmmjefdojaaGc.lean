/- Layer 7, plain: the laws' cut. -/
import Derived.Test.YtfoocmmjefdojaaGrid
import Derived.Test.YtfoocmmjefdojaaEv
import Derived.Test.YtfoocmmjefdojaaK5
namespace Go.Proofs.Ytfoocmmjefdojaa.Pure
set_option linter.unusedVariables false
set_option linter.unusedSimpArgs false
open Go.RowKit Go.Proofs.Ytfoocmmjefdojaa.K Go.Proofs.YtfoocmmjefdojaaW.PrintWords Go.Proofs.YtfoocmmjefdojaaW.PrintLast Go.Proofs.YtfoocmmjefdojaaW.PrintMore

theorem rdSp {xs : List Sp} {j : Nat} {x : Sp} (h : xs[j]? = some x) : rd_T34 xs (j : Int) = x := getD_at h
theorem rdRow {xs : List (List Sp)} {j : Nat} {x : List Sp} (h : xs[j]? = some x) : rd_L2 xs (j : Int) = x := getD_at h

/-- the law's cut -/
theorem cut_l1 (rows out : List (List Sp)) (r : Nat) (hr : r < 20) (row : List Sp) (hrow : rows[r]? = some row) (hol : out.length ≤ 100) (P : List (List Sp) → Prop)
    (next : ∀ c : List Sp, c.length ≤ 10 → ∃ t, Ev (fun k => purflinglaw07_Cut.l0 k rows (out ++ [c]) ((r + 1 : Nat) : Int)) t ∧ P t) : ∀ (d i : Nat) (acc : List Sp), i + d = 10 → acc.length = i → i ≤ row.length → ∃ t, Ev (fun k => purflinglaw07_Cut.l1 k rows out (r : Int) acc (i : Int)) t ∧ P t := by
  have hlt := (List.getElem?_eq_some_iff.1 hrow).1
  have stop : ∀ (i : Nat) (acc : List Sp), acc.length ≤ 10 → ∃ t, Ev (fun k => purflinglaw07_Cut.j3 k rows out (r : Int) acc (i : Int) false) t ∧ P t := by
    intro i acc ha
    obtain ⟨t, ht, hp⟩ := next acc ha
    refine ⟨t, Ev.step (fun k => by rw [purflinglaw07_Cut.j3]) (ev_neg (by decide) (ev_pos (by omega) ?_)), hp⟩
    rw [up_ok (by omega)]; exact ht
  intro d
  induction d with
  | zero =>
    intro i acc h ha hi
    obtain ⟨t, ht, hp⟩ := stop i acc (by omega)
    refine ⟨t, Ev.step (fun k => by rw [purflinglaw07_Cut.l1]) (ev_pos (by omega) (ev_pos (by omega) ?_)), hp⟩
    rw [rdRow hrow]
    by_cases q : (i : Int) < (row.length : Int)
    · refine ev_pos q ?_
      rw [decide_eq_false (by omega)]; exact ht
    · exact ev_neg q ht
  | succ d ih =>
    intro i acc h ha hi
    by_cases q : (i : Int) < (row.length : Int)
    · obtain ⟨c, hc, -⟩ := at_some (xs := row) (j := i) (by omega)
      have go : ∀ c' : Sp, ∃ t, Ev (fun k => purflinglaw07_Cut.l1 k rows out (r : Int) (acc ++ [c']) (wrap64 ((i : Int) + 1))) t ∧ P t := fun c' => by
        rw [up_ok (by omega)]; exact ih (i + 1) (acc ++ [c']) (by omega) (by simp; omega) (by omega)
      have mk : ∀ {t}, Ev (fun k => purflinglaw07_Cut.j3 k rows out (r : Int) acc (i : Int) true) t → Ev (fun k => purflinglaw07_Cut.l1 k rows out (r : Int) acc (i : Int)) t := fun {t} ht => by
        refine Ev.step (fun k => by rw [purflinglaw07_Cut.l1]) (ev_pos (by omega) (ev_pos (by omega) ?_))
        rw [rdRow hrow]
        refine ev_pos q ?_
        rw [decide_eq_true (by omega)]; exact ht
      have mk2 : ∀ {t} {f : Nat → Option (List (List Sp))}, (∀ k, f k = if c.f1 > 30 then (if c.f1 ≤ 1000 then (if acc.length < 5864062014805 then (purflinglaw07_Cut.l1 k rows out (r : Int) (acc ++ [(⟨c.f0, 30, c.f2⟩ : Sp)]) (wrap64 ((i : Int) + 1))) else none) else (if acc.length < 5864062014805 then (purflinglaw07_Cut.l1 k rows out (r : Int) (acc ++ [(⟨c.f0, c.f1, c.f2⟩ : Sp)]) (wrap64 ((i : Int) + 1))) else none)) else (if acc.length < 5864062014805 then (purflinglaw07_Cut.l1 k rows out (r : Int) (acc ++ [(⟨c.f0, c.f1, c.f2⟩ : Sp)]) (wrap64 ((i : Int) + 1))) else none)) → Ev f t → Ev (fun k => purflinglaw07_Cut.j3 k rows out (r : Int) acc (i : Int) true) t := fun {t f} hf ht => by
        refine Ev.step (fun k => by rw [purflinglaw07_Cut.j3]) (ev_pos rfl (ev_pos (by omega) (ev_pos (by omega) (ev_pos (by omega) ?_))))
        rw [rdRow hrow, rdSp hc]
        refine ev_pos (by omega) ?_
        exact Ev.congr (fun k => (hf k).symm) ht
      by_cases q1 : c.f1 > 30
      · by_cases q2 : c.f1 ≤ 1000
        · obtain ⟨t, ht, hp⟩ := go ⟨c.f0, 30, c.f2⟩
          exact ⟨t, mk (mk2 (fun k => rfl) (ev_pos q1 (ev_pos q2 (ev_pos (by omega) ht)))), hp⟩
        · obtain ⟨t, ht, hp⟩ := go ⟨c.f0, c.f1, c.f2⟩
          exact ⟨t, mk (mk2 (fun k => rfl) (ev_pos q1 (ev_neg q2 (ev_pos (by omega) ht)))), hp⟩
      · obtain ⟨t, ht, hp⟩ := go ⟨c.f0, c.f1, c.f2⟩
        exact ⟨t, mk (mk2 (fun k => rfl) (ev_neg q1 (ev_pos (by omega) ht))), hp⟩
    · obtain ⟨t, ht, hp⟩ := stop i acc (by omega)
      refine ⟨t, Ev.step (fun k => by rw [purflinglaw07_Cut.l1]) (ev_pos (by omega) (ev_pos (by omega) ?_)), hp⟩
      rw [rdRow hrow]
      exact ev_neg q ht
theorem cut_l0 (rows : List (List Sp)) : ∀ (d r : Nat) (out : List (List Sp)), r + d = 20 → r ≤ rows.length → out.length = r → (∀ x ∈ out, x.length ≤ 10) → ∃ t, Ev (fun k => purflinglaw07_Cut.l0 k rows out (r : Int)) t ∧ t.length ≤ 20 ∧ ∀ x ∈ t, x.length ≤ 10 := by
  have stop : ∀ (r : Nat) (out : List (List Sp)), Ev (fun k => purflinglaw07_Cut.j1 k rows out (r : Int) false) out := fun r out => Ev.step (fun k => by rw [purflinglaw07_Cut.j1]) (ev_neg (by decide) (ev_now rfl))
  intro d
  induction d with
  | zero =>
    intro r out h hr ho hx
    refine ⟨out, Ev.step (fun k => by rw [purflinglaw07_Cut.l0]) ?_, by omega, hx⟩
    by_cases q : (r : Int) < (rows.length : Int)
    · refine ev_pos q ?_
      rw [decide_eq_false (by omega)]; exact stop r out
    · exact ev_neg q (stop r out)
  | succ d ih =>
    intro r out h hr ho hx
    by_cases q : (r : Int) < (rows.length : Int)
    · obtain ⟨row, hrow, -⟩ := at_some (xs := rows) (j := r) (by omega)
      obtain ⟨t, ht, hp⟩ := cut_l1 rows out r (by omega) row hrow (by omega) (fun t => t.length ≤ 20 ∧ ∀ x ∈ t, x.length ≤ 10) (fun c hc => ih (r + 1) (out ++ [c]) (by omega) (by omega) (by simp; omega) (fun x hx' => by
        rcases List.mem_append.1 hx' with h1 | h1
        · exact hx x h1
        · rw [List.mem_singleton.1 h1]; exact hc)) 10 0 [] rfl rfl (by omega)
      refine ⟨t, Ev.step (fun k => by rw [purflinglaw07_Cut.l0]) (ev_pos q ?_), hp⟩
      rw [decide_eq_true (by omega)]
      refine Ev.step (fun k => by rw [purflinglaw07_Cut.j1]) ?_
      exact ev_pos rfl ht
    · exact ⟨out, Ev.step (fun k => by rw [purflinglaw07_Cut.l0]) (ev_neg q (stop r out)), by omega, hx⟩
theorem cut_ev (rows : List (List Sp)) : ∃ t, Ev (fun k => purflinglaw07_Cut.f k rows) t ∧ t.length ≤ 20 ∧ ∀ x ∈ t, x.length ≤ 10 := cut_l0 rows 20 0 [] rfl (by omega) rfl (fun x hx => nomatch hx)
theorem cells_len {α : Type} (n : Nat) : ∀ (rows : List (List α)) (r : Nat), (∀ x ∈ rows, x.length ≤ n) → (cellsFrom r rows).length ≤ rows.length * n
  | [], r, h => by simp [cellsFrom]
  | x :: rows, r, h => by
    unfold cellsFrom
    rw [List.length_append, List.length_map, List.length_cons, Nat.add_mul]
    have := cells_len n rows (r + 1) (fun y hy => h y (List.mem_cons_of_mem _ hy))
    have := h x (List.mem_cons_self ..)
    omega
theorem run_len (ends : List Int) : ∀ (xs : List (Nat × Sp)) (s : LSt), (runP ends xs s).ps.length ≤ s.ps.length + xs.length
  | [], s => by simp [runP]
  | x :: xs, s => by
    unfold runP
    have h1 : (stepP ends s x).ps.length = s.ps.length + 1 := by unfold stepP; simp
    split
    · rw [h1, List.length_cons]; omega
    · have := run_len ends xs (stepP ends s x); rw [h1] at this; rw [List.length_cons]; omega
theorem lay_len {rows : List (List Sp)} {ends : List Int} {t : List Pl × Int × Int} (ht : grid_Lay.f rows ends = some t) : t.1.length ≤ (cellsFrom 0 rows).length := by
  have hr := run_len ends (cellsFrom 0 rows) ⟨[], 0, 0, 0⟩
  unfold grid_Lay.f at ht
  split at ht
  · split at ht
    · split at ht
      · have hh := Option.some.inj ht
        rw [← hh]; simp
      · have hh := Option.some.inj ht
        rw [← hh]; dsimp only at hr ⊢; simpa using hr
    · cases ht
  · have hh := Option.some.inj ht
    rw [← hh]; simp
end Go.Proofs.Ytfoocmmjefdojaa.Pure
