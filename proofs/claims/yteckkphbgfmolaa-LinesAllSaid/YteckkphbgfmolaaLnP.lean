/- Layer 8: plain laws of lines. No program in sight. -/
import Derived.Test.YteckkphbgfmolaaLnS
namespace Go.Proofs.Yteckkphbgfmolaa.Pure
open Go.RowKit Go.Proofs.Yteckkphbgfmolaa.K Go.Proofs.YteckkphbgfmolaaW.PrintWords Go.Proofs.YteckkphbgfmolaaW.PrintLast Go.Proofs.YteckkphbgfmolaaW.PrintMore
set_option linter.unusedVariables false
set_option linter.unusedSimpArgs false
/-- a text's words and blank are right -/
structure Txt (ws : List Int) (blank : Int) : Prop where
  w : ∀ x ∈ ws, 0 ≤ x ∧ x ≤ 1073741824
  l : ws.length ≤ 10000
  b : 0 ≤ blank ∧ blank ≤ 1073741824
theorem txt_of {n : Nd} (h : rightB n = true) : Txt n.f3 n.f4 := by
  obtain ⟨-, hl, hb, -, hw⟩ := right_facts h
  exact ⟨hw, hl, hb⟩
theorem wideP_mono {ws : List Int} {blank : Int} (h : Txt ws blank) {f g t u : Nat} (h1 : f ≤ g) (h2 : g ≤ t) (h3 : t ≤ u) (h4 : u ≤ ws.length) : wideP ws blank g t ≤ wideP ws blank f u := by
  have e1 := wideP_split ws blank f g u h1 (by omega) h4
  have e2 := wideP_split ws blank g t u h2 h3 h4
  have b1 := wideP_bound h.w h.l h.b f g (by omega)
  have b2 := wideP_bound h.w h.l h.b t u h4
  have hb := h.b
  have p1 : 0 ≤ (if f < g ∧ g < u then blank else 0) := by split <;> omega
  have p2 : 0 ≤ (if g < t ∧ t < u then blank else 0) := by split <;> omega
  omega
theorem endN_spec {ws : List Int} {blank width : Int} (h : Txt ws blank) (f : Nat) : ∀ (k t : Nat), f < t → t ≤ ws.length → ws.length ≤ t + k →
    t ≤ endN ws blank width k t (wideP ws blank f t) ∧ endN ws blank width k t (wideP ws blank f t) ≤ ws.length ∧
    (endN ws blank width k t (wideP ws blank f t) = t ∨ wideP ws blank f (endN ws blank width k t (wideP ws blank f t)) ≤ width) ∧
    (endN ws blank width k t (wideP ws blank f t) < ws.length → width < wideP ws blank f (endN ws blank width k t (wideP ws blank f t) + 1))
  | 0, t, h1, h2, h3 => by
    unfold endN
    exact ⟨Nat.le_refl _, h2, .inl rfl, fun hh => by omega⟩
  | k + 1, t, h1, h2, h3 => by
    unfold endN
    cases hx : ws[t]? with
    | none =>
      have := List.getElem?_eq_none_iff.1 hx
      exact ⟨Nat.le_refl _, h2, .inl rfl, fun hh => by dsimp only at hh; omega⟩
    | some x =>
      have hlt := (List.getElem?_eq_some_iff.1 hx).1
      have hwx := h.w x (List.mem_of_getElem? hx)
      have hbd := wideP_bound h.w h.l h.b f t (by omega)
      have hn := wideP_next (blank := blank) h1 hx
      dsimp only
      rw [sat3 (by omega) h.b hwx, ← hn]
      split
      · exact ⟨Nat.le_refl _, h2, .inl rfl, fun _ => by omega⟩
      · obtain ⟨i1, i2, i3, i4⟩ := endN_spec (width := width) h f k (t + 1) (by omega) (by omega) (by omega)
        refine ⟨by omega, i2, .inr ?_, i4⟩
        rcases i3 with i3 | i3
        · rw [i3]; omega
        · exact i3
/-- a line begins at f and ends at t -/
structure LineAt (ws : List Int) (blank width : Int) (f t : Nat) : Prop where
  lo : f < t
  hi : t ≤ ws.length
  fits : t = f + 1 ∨ wideP ws blank f t ≤ width
  full : t < ws.length → width < wideP ws blank f (t + 1)
theorem line_at {ws : List Int} {blank width : Int} (h : Txt ws blank) {f : Nat} {x : Int} (hx : ws[f]? = some x) : LineAt ws blank width f (endN ws blank width ws.length (f + 1) x) := by
  have hlt := (List.getElem?_eq_some_iff.1 hx).1
  have := endN_spec (width := width) h f ws.length (f + 1) (by omega) (by omega) (by omega)
  rw [wideP_one hx] at this
  exact ⟨by omega, this.2.1, this.2.2.1, this.2.2.2⟩
theorem LineAt.mono {ws : List Int} {blank a b : Int} (h : Txt ws blank) {f g t u : Nat} (hab : a ≤ b) (hfg : f ≤ g) (hg : g < ws.length) (hf : LineAt ws blank a f t) (hu : LineAt ws blank b g u) : t ≤ u := by
  refine Nat.le_of_not_lt fun hlt => ?_
  have h1 := hu.full (by have := hf.hi; omega)
  have h2 := wideP_mono h hfg (show g ≤ u + 1 by have := hu.lo; omega) (show u + 1 ≤ t by omega) hf.hi
  rcases hf.fits with e | e
  · have := hu.lo; omega
  · omega
theorem linesN_fewer {ws : List Int} {blank a b : Int} (h : Txt ws blank) (hab : a ≤ b) : ∀ (k k' f g : Nat), f ≤ g → ws.length ≤ f + k → (linesN ws blank b k' g).length ≤ (linesN ws blank a k f).length
  | k, 0, f, g, hfg, hk => Nat.zero_le _
  | 0, k' + 1, f, g, hfg, hk => by
    unfold linesN
    rw [List.getElem?_eq_none (by omega)]
    exact Nat.zero_le _
  | k + 1, k' + 1, f, g, hfg, hk => by
    cases hy : ws[g]? with
    | none => unfold linesN; rw [hy]; exact Nat.zero_le _
    | some y =>
      have hg := (List.getElem?_eq_some_iff.1 hy).1
      obtain ⟨x, hx, -⟩ := at_some (xs := ws) (j := f) (by omega)
      have l1 := line_at (width := a) h hx
      have l2 := line_at (width := b) h hy
      have hm := LineAt.mono h hab hfg hg l1 l2
      rw [linesN, linesN, hy, hx]
      dsimp only
      rw [List.length_cons, List.length_cons]
      have := linesN_fewer h hab k k' _ _ hm (by have := l1.lo; omega)
      omega
theorem linesN_nil (ws : List Int) (blank width : Int) (k f : Nat) (hf : ws.length ≤ f) : linesN ws blank width k f = [] := by
  cases k with
  | zero => rfl
  | succ k => unfold linesN; rw [List.getElem?_eq_none hf]
theorem linesN_most {ws : List Int} {blank : Int} (h : Txt ws blank) : (linesN ws blank (wideP ws blank 0 ws.length) ws.length 0).length = mn ws.length 1 := by
  cases hl : ws.length with
  | zero => rw [← hl, linesN_nil _ _ _ _ _ (by omega), hl]; rfl
  | succ m =>
    obtain ⟨x, hx, -⟩ := at_some (xs := ws) (j := 0) (by omega)
    have l1 := line_at (width := wideP ws blank 0 (m + 1)) h hx
    rw [linesN, hx]
    dsimp only
    have he : endN ws blank (wideP ws blank 0 (m + 1)) ws.length (0 + 1) x = ws.length := by
      refine Nat.le_antisymm l1.hi (Nat.le_of_not_lt fun hlt => ?_)
      have h1 := l1.full hlt
      have h2 := wideP_mono h (Nat.le_refl 0) (Nat.zero_le _) (show endN ws blank (wideP ws blank 0 (m + 1)) ws.length (0 + 1) x + 1 ≤ m + 1 by omega) (by omega)
      omega
    rw [he, linesN_nil _ _ _ _ _ (Nat.le_refl _)]
    unfold mn
    simp only [List.length_cons, List.length_nil]
    split <;> omega
theorem linesP_pos {n : Nd} {width : Int} : 0 < (linesP n width).length ↔ 0 < n.f3.length := by
  unfold linesP
  constructor
  · intro hp
    refine Nat.pos_of_ne_zero fun h0 => ?_
    rw [linesN_nil _ _ _ _ _ (by omega)] at hp; simp at hp
  · intro hp
    obtain ⟨x, hx, -⟩ := at_some (xs := n.f3) (j := 0) hp
    obtain ⟨m, hm⟩ : ∃ m, n.f3.length = m + 1 := ⟨n.f3.length - 1, by omega⟩
    rw [hm, linesN, hx]; simp
theorem foldl_mx_sum : ∀ (l : List Int) (s : Int), (∀ x ∈ l, 0 ≤ x) → 0 ≤ s → l.foldl mx s ≤ s + l.sum
  | [], s, h, h0 => by simp
  | x :: l, s, h, h0 => by
    have hx := h x (List.mem_cons_self ..)
    have hm : mx s x ≤ s + x ∧ 0 ≤ mx s x := by unfold mx; split <;> omega
    have := foldl_mx_sum l (mx s x) (fun y hy => h y (List.mem_cons_of_mem _ hy)) hm.2
    rw [List.foldl_cons, List.sum_cons]; omega
theorem least_most {ws : List Int} {blank : Int} (h : Txt ws blank) : 0 ≤ ws.foldl mx 0 ∧ ws.foldl mx 0 ≤ wideP ws blank 0 ws.length := by
  have h1 := foldl_mx_sum ws 0 (fun x hx => (h.w x hx).1) (Int.le_refl 0)
  refine ⟨(foldl_mx_ge ws 0).1, ?_⟩
  unfold wideP
  rw [List.take_length, List.drop_zero]
  have hb := Int.mul_nonneg h.b.1 (show (0 : Int) ≤ ((ws.length - 0 - 1 : Nat) : Int) by omega)
  omega
/-- where line i begins -/
def atL (len : Nat) (l : List (Nat × Nat)) (i : Nat) : Nat := match l[i]? with | some x => x.1 | none => len
theorem atL_zero (ws : List Int) (blank width : Int) : ∀ (k f : Nat), f ≤ ws.length → ws.length ≤ f + k → atL ws.length (linesN ws blank width k f) 0 = f
  | 0, f, h1, h2 => by show ws.length = f; omega
  | k + 1, f, h1, h2 => by
    cases hx : ws[f]? with
    | none => have := List.getElem?_eq_none_iff.1 hx; rw [linesN_nil _ _ _ _ _ this]; show ws.length = f; omega
    | some x => rw [linesN, hx]; rfl
theorem linesN_at {ws : List Int} {blank width : Int} (h : Txt ws blank) : ∀ (k f i : Nat), f ≤ ws.length → ws.length ≤ f + k → i < (linesN ws blank width k f).length →
    ∃ a t, (linesN ws blank width k f)[i]? = some (a, t) ∧ a = atL ws.length (linesN ws blank width k f) i ∧ t = atL ws.length (linesN ws blank width k f) (i + 1) ∧ LineAt ws blank width a t
  | 0, f, i, h1, h2, h3 => by simp [linesN] at h3
  | k + 1, f, i, h1, h2, h3 => by
    cases hx : ws[f]? with
    | none => have := List.getElem?_eq_none_iff.1 hx; rw [linesN_nil _ _ _ _ _ this] at h3; simp at h3
    | some x =>
      have l1 := line_at (width := width) h hx
      rw [linesN, hx] at h3 ⊢
      dsimp only at h3 ⊢
      generalize endN ws blank width ws.length (f + 1) x = E at *
      have hE := l1.lo
      cases i with
      | zero => exact ⟨f, E, rfl, rfl, (atL_zero ws blank width k E l1.hi (by omega)).symm, l1⟩
      | succ i =>
        rw [List.length_cons] at h3
        obtain ⟨a, t, e1, e2, e3, e4⟩ := linesN_at (width := width) h k E i l1.hi (by omega) (by omega)
        exact ⟨a, t, e1, e2, e3, e4⟩
theorem atL_end (ws : List Int) (blank width : Int) (k f : Nat) : atL ws.length (linesN ws blank width k f) (linesN ws blank width k f).length = ws.length := by
  unfold atL; rw [List.getElem?_eq_none (Nat.le_refl _)]
end Go.Proofs.Yteckkphbgfmolaa.Pure
