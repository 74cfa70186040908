/- Layer 7, plain: GridSlots. -/
import Derived.Test.YtfoocmmjefdojaaGq
import Derived.Test.YtfoocmmjefdojaaK15
import Derived.Test.YtfoocmmjefdojaaOpens
import Derived.KernelRfl
namespace Go.Proofs.Ytfoocmmjefdojaa.Pure
set_option linter.unusedVariables false
set_option linter.unusedSimpArgs false
open Go.RowKit Go.Proofs.Ytfoocmmjefdojaa.K Go.Proofs.YtfoocmmjefdojaaW.PrintWords Go.Proofs.YtfoocmmjefdojaaW.PrintLast Go.Proofs.YtfoocmmjefdojaaW.PrintMore

theorem shown_ev : Ev (fun k => purflinglaw07_shown.f k) true := by
  have h : purflinglaw07_shown.f 10 = some true := by decide +kernel
  exact Ev.of purflinglaw07_shown.mono h
theorem ev_ite {α : Type} {c : Prop} [Decidable c] {f g : Nat → Option α} {r : α} (h1 : Ev f r) (h2 : Ev g r) : Ev (fun k => if c then f k else g k) r := by
  by_cases h : c
  · exact ev_pos h h1
  · exact ev_neg h h2
theorem ints_l0 (a : List Int) (hl : a.length ≤ 1000000) : ∀ (d j : Nat), j + d = a.length → Ev (fun k => purflingref04_Ints.l0 k a a (j : Int)) true
  | 0, j, h => Ev.step (fun k => by rw [purflingref04_Ints.l0]) (ev_neg (by omega) (ev_now rfl))
  | d + 1, j, h => by
    refine Ev.step (fun k => by rw [purflingref04_Ints.l0]) (ev_pos (by omega) (ev_pos (by omega) (ev_pos (by omega) ?_)))
    rw [up_ok (by omega)]
    have := ints_l0 a hl d (j + 1) (by omega)
    first | exact ev_pos rfl this | exact ev_neg (by simp) this
theorem ints_ev (a : List Int) (hl : a.length ≤ 1000000) : Ev (fun k => purflingref04_Ints.f k a a) true := by
  unfold purflingref04_Ints.f
  first | exact ev_pos rfl (ints_l0 a hl a.length 0 (by omega)) | exact ev_neg (by simp) (ints_l0 a hl a.length 0 (by omega))
theorem rdSl {xs : List Sl} {j : Nat} {x : Sl} (h : xs[j]? = some x) : rd_T45 xs (j : Int) = x := getD_at h
theorem at_drop {α : Type} {xs : List α} {j : Nat} {x : α} {rest : List α} (h : xs.drop j = x :: rest) : xs[j]? = some x ∧ j < xs.length ∧ xs.drop (j + 1) = rest := by
  have h1 : j < xs.length := by
    rcases Nat.lt_or_ge j xs.length with h1 | h1
    · exact h1
    · rw [List.drop_of_length_le h1] at h; cases h
  rw [List.drop_eq_getElem_cons h1] at h
  injection h with h2 h3
  exact ⟨by rw [List.getElem?_eq_getElem h1, h2], h1, h3⟩
section
variable (m : List (List Int)) (C : Nat) (hm : ∀ x ∈ m, x.length = C) (hC : C ≤ 1000000) (hml : m.length ≤ 1000000) (x : List Sl) (hx : x.length ≤ 1000000)
include hC hx
theorem gs_l1 (r : Nat) (row : List Int) (hrow : m[r]? = some row) (hrl : row.length = C) (tail : List Sl)
    (next : ∀ pos, pos ≤ x.length → x.drop pos = tail → Ev (fun k => purflinglaw07_GridSlots.l0 k true m m x pos (wrap64 ((r : Int) + 1))) true) :
    ∀ (d c pos : Nat), c + d = row.length → pos ≤ x.length → x.drop pos = emptyR r c (row.drop c) ++ tail → Ev (fun k => purflinglaw07_GridSlots.l1 k true m m x pos r c) true
  | 0, c, pos, h, hpl, hp => by
    have hlt := (List.getElem?_eq_some_iff.1 hrow).1
    refine Ev.step (fun k => by rw [purflinglaw07_GridSlots.l1]) (ev_pos (by omega) (ev_pos (by omega) ?_))
    rw [rdL4 hrow]
    rw [List.drop_of_length_le (show row.length ≤ c by omega)] at hp
    unfold emptyR at hp
    exact ev_neg (by omega) (next pos hpl hp)
  | d + 1, c, pos, h, hpl, hp => by
    have hlt := (List.getElem?_eq_some_iff.1 hrow).1
    obtain ⟨v, hv, -⟩ := at_some (xs := row) (j := c) (by omega)
    refine Ev.step (fun k => by rw [purflinglaw07_GridSlots.l1]) (ev_pos (by omega) (ev_pos (by omega) ?_))
    rw [rdL4 hrow, rd_at hv]
    refine ev_pos (by omega) (ev_pos (by omega) ?_)
    rw [drop_at hv] at hp
    unfold emptyR at hp
    by_cases q : v < 0
    · rw [if_pos q, List.cons_append] at hp
      obtain ⟨h1, h2, h3⟩ := at_drop hp
      refine ev_neg (by omega) (ev_neg (by omega) (ev_pos (by omega) (ev_pos (by omega) ?_)))
      rw [rdSl h1]
      refine ev_neg (by simp) ?_
      rw [up_ok (by omega), up_ok (by omega)]
      exact gs_l1 r row hrow hrl tail next d (c + 1) (pos + 1) (by omega) (by omega) h3
    · rw [if_neg q] at hp
      refine ev_pos (by omega) ?_
      rw [up_ok (by omega)]
      exact gs_l1 r row hrow hrl tail next d (c + 1) pos (by omega) hpl hp
include hm hml
theorem gs_l0 : ∀ (d r pos : Nat), r + d = m.length → x.drop pos = emptyM r (m.drop r) → pos ≤ x.length → Ev (fun k => purflinglaw07_GridSlots.l0 k true m m x pos r) true
  | 0, r, pos, h, hp, hpl => by
    refine Ev.step (fun k => by rw [purflinglaw07_GridSlots.l0]) (ev_neg (by omega) (ev_pos rfl (ev_now ?_)))
    rw [List.drop_of_length_le (show m.length ≤ r by omega)] at hp
    unfold emptyM at hp
    have := congrArg List.length hp
    rw [List.length_drop, List.length_nil] at this
    have : pos = x.length := by omega
    subst this
    simp
  | d + 1, r, pos, h, hp, hpl => by
    obtain ⟨row, hrow, hmem⟩ := at_some (xs := m) (j := r) (by omega)
    refine Ev.step (fun k => by rw [purflinglaw07_GridSlots.l0]) (ev_pos (by omega) (ev_pos (by omega) (ev_pos (by omega) ?_)))
    rw [rdL4 hrow]
    refine ev_bind (ints_ev row (by rw [hm row hmem]; exact hC)) (ev_pos rfl ?_)
    rw [drop_at hrow] at hp
    unfold emptyM at hp
    refine gs_l1 m C hC x hx r row hrow (hm row hmem) (emptyM (r + 1) (m.drop (r + 1))) (fun pos' hle hp' => ?_) row.length 0 pos (by omega) hpl (by rw [List.drop_zero]; exact hp)
    rw [up_ok (by omega)]
    exact gs_l0 d (r + 1) pos' (by omega) hp' hle
end
theorem GridSlots (l0 : List Pl) (a1 a2 : Int) (g0 : ∀ x ∈ l0, good_40 x) (g1 : (Lit.int .i64 a1).wf = true) (g2 : (Lit.int .i64 a2).wf = true) : ∃ k, purflinglaw07_GridSlots.f k l0 a1 a2 = some true := by
  apply Ev.rounds
  unfold purflinglaw07_GridSlots.f
  have h0 := mn_le l0.length 60 (by decide)
  refine ev_bind shown_ev (ev_pos h0.1 (ev_pos h0.2.1 (ev_bind (ev_const rfl) ?_)))
  generalize hy : l0.take (mn (l0.length : Int) 60).toNat = y
  have hyl : y.length ≤ 60 := by rw [← hy, List.length_take]; omega
  clear hy h0
  have hj : ∀ b, Ev (fun k => purflinglaw07_GridSlots.j0 k y a1 a2 true b) true := by
    intro b
    refine Ev.step (fun k => by rw [purflinglaw07_GridSlots.j0]) ?_
    cases b with
    | true => exact ev_pos rfl (ev_now rfl)
    | false =>
      refine ev_neg (by decide) ?_
      obtain ⟨t, ht, hr⟩ := slots_ev y a1 a2 (by omega)
      have he : ∃ u, grid_Empty.f y a1 a2 = some u ∧ u.2 = t.2 ∧ (t = ([], 70) ∧ u.1 = [] ∨ ∃ (R C : Nat), t.2 = 0 ∧ u.1 = emptyM 0 t.1 ∧ DimM R C t.1 ∧ R ≤ 65536 ∧ C ≤ 10000 ∧ R * C ≤ 1000000) := by
        unfold grid_Empty.f
        rcases slots_cases y a1 a2 with hs | ⟨R, C, m, rfl, rfl, h1, h2, h3, hd, -, hs⟩
        · rw [hs] at ht ⊢
          cases ht
          exact ⟨_, rfl, rfl, .inl ⟨rfl, rfl⟩⟩
        · rw [hs] at ht ⊢
          cases ht
          exact ⟨_, rfl, rfl, .inr ⟨R, C, rfl, rfl, hd, h1, h2, h3⟩⟩
      obtain ⟨u, hu, hue, hc⟩ := he
      refine ev_bind (ev_const ht) (ev_bind hr (ev_bind (ev_const hu) (ev_pos rfl (ev_pos hue.symm ?_))))
      rw [show ((t.1.length : Int) != (t.1.length : Int)) = false by simp]
      refine Ev.step (fun k => by rw [purflinglaw07_GridSlots.j1]) (ev_neg (by decide) ?_)
      rcases hc with ⟨rfl, hu1⟩ | ⟨R, C, -, hu1, hd, h1, h2, h3⟩
      · rw [hu1]
        dsimp only
        refine Ev.step (fun k => by rw [purflinglaw07_GridSlots.l0]) ?_
        exact (ev_neg (show ¬ (0 : Int) < ((([] : List (List Int)).length : Nat) : Int) by decide) (ev_pos rfl (ev_now rfl)))
      · rw [hu1]
        have h4 := emptyM_len C t.1 0 hd.2
        rw [hd.1] at h4
        exact gs_l0 t.1 C hd.2 (by omega) (by rw [hd.1]; omega) _ (by omega) t.1.length 0 0 (by omega) (by rw [List.drop_zero, List.drop_zero]) (Nat.zero_le _)
  repeat (first | exact hj _ | refine ev_ite ?_ ?_)
end Go.Proofs.Ytfoocmmjefdojaa.Pure
