/- Layer 5: Fix node by node, plain and in memory. -/
import Derived.Test.YtjhpkikgajgdmaaFxR
import Derived.Test.YtjhpkikgajgdmaaTrGc
import Derived.Test.YtjhpkikgajgdmaaFxR
namespace Go.Proofs.Ytjhpkikgajgdmaa.K
open Go.RowKit
set_option linter.unusedVariables false
set_option linter.unusedSimpArgs false

def sty1 : S40 := ⟨⟨0, 0⟩, ⟨0, 0⟩, ⟨0, 0, 0, 0⟩, ⟨⟨0, 0, 0⟩, ⟨0, 0, 0⟩, ⟨0, 0, 0⟩, ⟨0, 0, 0⟩⟩, 1, 1, 0, false, false, ⟨0, 0⟩, false, false⟩
/-- what is laid around some kids of a node of kind p -/
def wrapN (p : Int) (g : List Int) : Nd := ⟨aroundP p, g, sty1, [], 0, 0⟩
def kindAt (xs : List Nd) (k : Int) : Int := (rd_T43 xs k).f0
def cutI (l : List Int) (x : Nat × Nat × Bool) : List Int := (l.take x.2.1).drop x.1
def grpStep (n : Nd) (s : List Int × List Nd) (g : List Int × Bool) : List Int × List Nd :=
  if g.2 = true then (s.1 ++ g.1, s.2) else (s.1 ++ [(s.2.length : Int)], s.2 ++ [wrapN n.f0 g.1])
def runStep (n : Nd) (s : List Int × List Nd) (x : Nat × Nat × Bool) : List Int × List Nd := grpStep n s (cutI n.f1 x, x.2.2)
def runsN (xs : List Nd) (n : Nd) : List (Nat × Nat × Bool) := runsF (fun i => mayB n.f0 (kindAt xs (n.f1.getD i 0))) n.f1.length
def nodeStep (xs : List Nd) (i : Nat) : List Nd :=
  (((runsN xs (xs.getD i z43)).foldl (runStep (xs.getD i z43)) ([], xs)).2).set i { xs.getD i z43 with f1 := ((runsN xs (xs.getD i z43)).foldl (runStep (xs.getD i z43)) ([], xs)).1 }
def fixGo : Nat → Nat → List Nd → List Nd
  | 0, _, xs => xs
  | k + 1, i, xs => if i < xs.length then fixGo k (i + 1) (nodeStep xs i) else xs
def fixP (l : List Nd) : List Nd := fixGo (4 * l.length) 0 (compP l)

/-! groups of kids -/
inductive Grp (p : Int → Bool) : List Int → List (List Int × Bool) → Prop
  | nil : Grp p [] []
  | cons {g rest : List Int} {b : Bool} {gs : List (List Int × Bool)} : g ≠ [] → (∀ x ∈ g, p x = b) → (∀ y, rest.head? = some y → p y ≠ b) → Grp p rest gs → Grp p (g ++ rest) ((g, b) :: gs)

theorem runs_grp (l : List Int) (p : Int → Bool) : ∀ (d f i : Nat), i + d = l.length → f ≤ i → (i = l.length → f = i) → (i < l.length → ∀ j, f ≤ j → j ≤ i → p (l.getD j 0) = p (l.getD i 0)) →
    Grp p (l.drop f) ((runsG (fun i => p (l.getD i 0)) l.length d f i).map (fun x => (cutI l x, x.2.2)))
  | 0, f, i, hi, hf, he, _ => by
    rw [he (by omega), List.drop_eq_nil_of_le (by omega)]
    exact Grp.nil
  | d + 1, f, i, hi, hf, he, hp => by
    have hil : i < l.length := by omega
    have hp := hp hil
    rw [runsG]
    by_cases q : i + 1 < l.length ∧ p (l.getD (i + 1) 0) = p (l.getD i 0)
    · rw [if_pos q]
      refine runs_grp l p d f (i + 1) (by omega) (by omega) (fun h => by omega) (fun _ j h1 h2 => ?_)
      rcases Nat.lt_or_ge i j with h | h
      · rw [show j = i + 1 by omega]
      · rw [hp j h1 h, q.2]
    · rw [if_neg q, List.map_cons]
      have e : l.drop f = cutI l (f, i + 1, p (l.getD i 0)) ++ l.drop (i + 1) := by
        unfold cutI
        dsimp only
        rw [List.drop_take]
        have := List.take_append_drop (i + 1 - f) (l.drop f)
        rw [List.drop_drop, show f + (i + 1 - f) = i + 1 by omega] at this
        exact this.symm
      rw [e]
      have hlen : (cutI l (f, i + 1, p (l.getD i 0))).length = i + 1 - f := by
        unfold cutI
        dsimp only
        rw [List.length_drop, List.length_take]; omega
      refine Grp.cons (fun h => by rw [h] at hlen; simp at hlen; omega) (fun x hx => ?_) (fun y hy => ?_) (runs_grp l p d (i + 1) (i + 1) (by omega) (by omega) (fun _ => rfl) (fun _ j h1 h2 => by rw [show j = i + 1 by omega]))
      · obtain ⟨j, hj⟩ := List.getElem?_of_mem hx
        unfold cutI at hj
        dsimp only at hj
        rw [List.getElem?_drop, List.getElem?_take] at hj
        split at hj
        · rename_i h
          have := hp (f + j) (by omega) (by omega)
          rw [List.getD_eq_getElem?_getD, hj] at this
          exact this
        · cases hj
      · rw [List.head?_drop] at hy
        have h1 : i + 1 < l.length := (List.getElem?_eq_some_iff.1 hy).1
        intro h
        refine q ⟨h1, ?_⟩
        rw [List.getD_eq_getElem?_getD, hy]
        exact h
/-- the groups of a node's kids -/
def grpsN (xs : List Nd) (n : Nd) : List (List Int × Bool) := (runsN xs n).map (fun x => (cutI n.f1 x, x.2.2))
theorem grpsN_grp (xs : List Nd) (n : Nd) : Grp (fun k => mayB n.f0 (kindAt xs k)) n.f1 (grpsN xs n) := by
  have h := runs_grp n.f1 (fun k => mayB n.f0 (kindAt xs k)) n.f1.length 0 0 (by omega) (by omega) (fun h => h.symm ▸ rfl) (fun _ j h1 h2 => by rw [show j = 0 by omega])
  exact h

def newK (b : Nat) : List (List Int × Bool) → List Int
  | [] => []
  | (g, true) :: gs => g ++ newK b gs
  | (_, false) :: gs => (b : Int) :: newK (b + 1) gs
def newN (p : Int) : List (List Int × Bool) → List Nd
  | [] => []
  | (_, true) :: gs => newN p gs
  | (g, false) :: gs => wrapN p g :: newN p gs
theorem grp_fold (n : Nd) : ∀ (gs : List (List Int × Bool)) (s : List Int × List Nd), gs.foldl (grpStep n) s = (s.1 ++ newK s.2.length gs, s.2 ++ newN n.f0 gs)
  | [], s => by simp [newK, newN]
  | (g, true) :: gs, s => by
    rw [List.foldl_cons, grp_fold n gs]
    simp [grpStep, newK, newN]
  | (g, false) :: gs, s => by
    rw [List.foldl_cons, grp_fold n gs]
    simp [grpStep, newK, newN]
theorem run_fold (n : Nd) (rs : List (Nat × Nat × Bool)) (s : List Int × List Nd) : rs.foldl (runStep n) s = (rs.map (fun x => (cutI n.f1 x, x.2.2))).foldl (grpStep n) s := by
  rw [List.foldl_map]; rfl
theorem nodeStep_eq {xs : List Nd} {i : Nat} {n : Nd} (h : xs[i]? = some n) :
    nodeStep xs i = xs.set i { n with f1 := newK xs.length (grpsN xs n) } ++ newN n.f0 (grpsN xs n) := by
  have hn : xs.getD i z43 = n := by rw [List.getD_eq_getElem?_getD, h]; rfl
  unfold nodeStep
  rw [hn, run_fold, grp_fold]
  dsimp only
  rw [List.nil_append, List.set_append_left _ _ (List.getElem?_eq_some_iff.1 h).1]
  rfl

/-! what the groups bear -/
def indP (b n : Nat) (a : Int) : Nat := if (b : Int) ≤ a ∧ a < b + n then 1 else 0
theorem indP_zero (b : Nat) (a : Int) : indP b 0 a = 0 := if_neg (by omega)
theorem indP_succ (b n : Nat) (a : Int) : indP b (n + 1) a = (if ((b : Int) == a) = true then 1 else 0) + indP (b + 1) n a := by
  unfold indP
  by_cases h1 : (b : Int) = a
  · rw [if_pos (by omega), if_pos (by simpa using h1), if_neg (by omega)]
  · rw [if_neg (c := ((b : Int) == a) = true) (by simpa using h1)]
    by_cases h2 : (((b + 1 : Nat) : Int) ≤ a ∧ a < ((b + 1 : Nat) : Int) + (n : Nat))
    · rw [if_pos h2, if_pos (by omega)]
    · rw [if_neg h2, if_neg (by omega)]
theorem grp_count {p : Int → Bool} (q a : Int) : ∀ {l : List Int} {gs : List (List Int × Bool)}, Grp p l gs → ∀ b : Nat,
    (newK b gs).count a + ((newN q gs).map (fun y => y.f1.count a)).sum = l.count a + indP b (newN q gs).length a
  | _, _, .nil, b => by
    simp [newK, newN, indP_zero]
  | _, _, .cons (g := g) (b := true) (gs := gs) _ _ _ h, b => by
    have ih := grp_count q a h b
    rw [show newK b ((g, true) :: gs) = g ++ newK b gs from rfl, show newN q ((g, true) :: gs) = newN q gs from rfl, List.count_append, List.count_append]
    omega
  | _, _, .cons (g := g) (b := false) (gs := gs) _ _ _ h, b => by
    have ih := grp_count q a h (b + 1)
    rw [show newK b ((g, false) :: gs) = (b : Int) :: newK (b + 1) gs from rfl, show newN q ((g, false) :: gs) = wrapN q g :: newN q gs from rfl, List.count_append, List.count_cons, List.map_cons, List.sum_cons, List.length_cons, indP_succ]
    have e : (wrapN q g).f1 = g := rfl
    rw [e]
    omega
theorem grp_len {p : Int → Bool} (q : Int) : ∀ {l : List Int} {gs : List (List Int × Bool)}, Grp p l gs → ∀ b : Nat,
    (newK b gs).length + ((newN q gs).map (fun y => y.f1.length)).sum = l.length + (newN q gs).length
  | _, _, .nil, b => by simp [newK, newN]
  | _, _, .cons (g := g) (b := true) (gs := gs) _ _ _ h, b => by
    have ih := grp_len q h b
    simp only [newK, newN, List.length_append] at ih ⊢
    omega
  | _, _, .cons (g := g) (b := false) (gs := gs) _ _ _ h, b => by
    have ih := grp_len q h (b + 1)
    simp only [newK, newN, List.length_append, List.map_cons, List.sum_cons, List.length_cons] at ih ⊢
    have e : (wrapN q g).f1 = g := rfl
    rw [e]
    omega
theorem grp_newK {p : Int → Bool} (q : Int) : ∀ {l : List Int} {gs : List (List Int × Bool)}, Grp p l gs → ∀ (b : Nat) (x : Int), x ∈ newK b gs → (x ∈ l ∧ p x = true) ∨ ((b : Int) ≤ x ∧ x < b + (newN q gs).length)
  | _, _, .nil, b, x, hx => by simp [newK] at hx
  | _, _, .cons (g := g) (b := true) (gs := gs) _ h1 _ h, b, x, hx => by
    simp only [newK, newN, List.mem_append] at hx ⊢
    rcases hx with hx | hx
    · exact .inl ⟨.inl hx, h1 x hx⟩
    · rcases grp_newK q h b x hx with ⟨h2, h3⟩ | h2
      · exact .inl ⟨.inr h2, h3⟩
      · exact .inr h2
  | _, _, .cons (g := g) (b := false) (gs := gs) _ h1 _ h, b, x, hx => by
    simp only [newK, newN, List.mem_append, List.mem_cons, List.length_cons] at hx ⊢
    rcases hx with hx | hx
    · exact .inr (by omega)
    · rcases grp_newK q h (b + 1) x hx with ⟨h2, h3⟩ | h2
      · exact .inl ⟨.inr h2, h3⟩
      · exact .inr (by omega)
theorem grp_newN {p : Int → Bool} (q : Int) : ∀ {l : List Int} {gs : List (List Int × Bool)}, Grp p l gs → ∀ y ∈ newN q gs, ∃ g, y = wrapN q g ∧ g ≠ [] ∧ ∀ x ∈ g, x ∈ l ∧ p x = false
  | _, _, .nil, y, hy => by simp [newN] at hy
  | _, _, .cons (g := g) (b := true) (gs := gs) _ h1 _ h, y, hy => by
    simp only [newN] at hy
    obtain ⟨g', e, h2, h3⟩ := grp_newN q h y hy
    exact ⟨g', e, h2, fun x hx => ⟨List.mem_append_right _ (h3 x hx).1, (h3 x hx).2⟩⟩
  | _, _, .cons (g := g) (b := false) (gs := gs) h0 h1 _ h, y, hy => by
    simp only [newN, List.mem_cons] at hy
    rcases hy with rfl | hy
    · exact ⟨g, rfl, h0, fun x hx => ⟨List.mem_append_left _ hx, h1 x hx⟩⟩
    · obtain ⟨g', e, h2, h3⟩ := grp_newN q h y hy
      exact ⟨g', e, h2, fun x hx => ⟨List.mem_append_right _ (h3 x hx).1, (h3 x hx).2⟩⟩
theorem sum_ge_len {g : List Int} {w v : Int → Nat} (h : ∀ x ∈ g, w x = v x + 1) : (g.map w).sum = (g.map v).sum + g.length := by
  induction g with
  | nil => rfl
  | cons x g ih =>
    rw [List.map_cons, List.map_cons, List.sum_cons, List.sum_cons, h x (by simp), ih (fun y hy => h y (by simp [hy])), List.length_cons]
    omega
theorem grp_pot {p : Int → Bool} (q : Int) (w v : Int → Nat) : ∀ {l : List Int} {gs : List (List Int × Bool)}, Grp p l gs → (∀ x ∈ l, p x = false → w x = v x + 1) →
    (newN q gs).length + ((newN q gs).map (fun y => (y.f1.map v).sum)).sum ≤ (l.map w).sum
  | _, _, .nil, _ => by simp [newN]
  | _, _, .cons (g := g) (b := true) (gs := gs) _ h1 _ h, hw => by
    have ih := grp_pot q w v h (fun x hx => hw x (List.mem_append_right _ hx))
    simp only [newN, List.map_append, List.sum_append] at ih ⊢
    omega
  | _, _, .cons (g := g) (b := false) (gs := gs) h0 h1 _ h, hw => by
    have ih := grp_pot q w v h (fun x hx => hw x (List.mem_append_right _ hx))
    simp only [newN, List.map_append, List.sum_append, List.map_cons, List.sum_cons, List.length_cons] at ih ⊢
    have e : (wrapN q g).f1 = g := rfl
    rw [e, sum_ge_len (w := w) (v := v) (fun x hx => hw x (List.mem_append_left _ hx) (h1 x hx))]
    have : 0 < g.length := List.length_pos_iff.2 h0
    omega

/-! how many are laid around a kid -/
def needP (p k : Int) : Nat := if mayB p k = true then 0 else if mayB (aroundP p) k = true then 1 else if mayB (aroundP (aroundP p)) k = true then 2 else 3
def goodK (p : Int) : Prop := p = 0 ∨ p = 2 ∨ p = 3 ∨ p = 4 ∨ p = 6 ∨ p = 7 ∨ p = 8 ∨ p = 9 ∨ p = 10
theorem need_le (p k : Int) : needP p k ≤ 3 := by
  unfold needP
  repeat' split
  all_goals omega
theorem need_step {p k : Int} (hp : goodK p) (h0 : 0 ≤ k) (h1 : k ≤ 10) (hm : mayB p k = false) :
    goodK (aroundP p) ∧ mayB p (aroundP p) = true ∧ needP p k = needP (aroundP p) k + 1 ∧ (aroundP p = 2 ∨ aroundP p = 9 ∨ aroundP p = 10) := by
  have hk : k = 0 ∨ k = 1 ∨ k = 2 ∨ k = 3 ∨ k = 4 ∨ k = 5 ∨ k = 6 ∨ k = 7 ∨ k = 8 ∨ k = 9 ∨ k = 10 := by omega
  rcases hp with rfl | rfl | rfl | rfl | rfl | rfl | rfl | rfl | rfl
  all_goals rcases hk with rfl | rfl | rfl | rfl | rfl | rfl | rfl | rfl | rfl | rfl | rfl
  all_goals first
    | (exact absurd hm (by decide))
    | (exact ⟨by unfold goodK; decide, by decide, by decide, by decide⟩)

/-! sums over nodes -/
theorem sum_set (f : Nd → Nat) : ∀ {xs : List Nd} {i : Nat} {n : Nd} (y : Nd), xs[i]? = some n → ((xs.set i y).map f).sum + f n = (xs.map f).sum + f y
  | [], i, n, y, h => by simp at h
  | x :: xs, 0, n, y, h => by
    have e : x = n := by simpa using h
    subst e
    simp only [List.set_cons_zero, List.map_cons, List.sum_cons]; omega
  | x :: xs, i + 1, n, y, h => by
    have ih := sum_set f (i := i) y (show xs[i]? = some n by simpa using h)
    simp only [List.set_cons_succ, List.map_cons, List.sum_cons]
    omega
theorem sum_at (f : Nd → Nat) : ∀ {xs : List Nd} {i : Nat} {n : Nd}, xs[i]? = some n → f n ≤ (xs.map f).sum
  | [], i, n, h => by simp at h
  | x :: xs, 0, n, h => by
    have e : x = n := by simpa using h
    subst e
    simp only [List.map_cons, List.sum_cons]; omega
  | x :: xs, i + 1, n, h => by
    have ih := sum_at f (i := i) (show xs[i]? = some n by simpa using h)
    simp only [List.map_cons, List.sum_cons]
    omega
def ckid (xs : List Nd) (a : Int) : Nat := (xs.map (fun n => n.f1.count a)).sum
def kidsum (xs : List Nd) : Nat := (xs.map (fun n => n.f1.length)).sum
def potW (K : Int → Int) (xs : List Nd) : Nat := (xs.map (fun n => (n.f1.map (fun k => needP n.f0 (K k))).sum)).sum
theorem potW_congr {K K' : Int → Int} {xs : List Nd} (h : ∀ n ∈ xs, ∀ k ∈ n.f1, K' k = K k) : potW K' xs = potW K xs := by
  unfold potW
  congr 1
  apply List.map_congr_left
  intro n hn
  congr 1
  apply List.map_congr_left
  intro k hk
  rw [h n hn k hk]

theorem kindAt_nat {xs : List Nd} {j : Nat} {n : Nd} (h : xs[j]? = some n) : kindAt xs (j : Int) = n.f0 := by
  unfold kindAt rd_T43; rw [Int.toNat_natCast, List.getD_eq_getElem?_getD, h]; rfl
theorem kindAt_step {xs : List Nd} {i : Nat} {n : Nd} (h : xs[i]? = some n) {k : Int} (h0 : 0 ≤ k) (h1 : k < xs.length) : kindAt (nodeStep xs i) k = kindAt xs k := by
  obtain ⟨j, rfl⟩ := Int.eq_ofNat_of_zero_le h0
  have hj : j < xs.length := by omega
  rw [nodeStep_eq h, kindAt_nat (List.getElem?_eq_getElem hj)]
  refine (kindAt_nat (n := (xs.set i { n with f1 := newK xs.length (grpsN xs n) })[j]'(by rw [List.length_set]; exact hj)) ?_).trans ?_
  · rw [List.getElem?_append_left (by rw [List.length_set]; exact hj)]
    exact List.getElem?_eq_getElem _
  · rw [List.getElem_set]
    split
    · rename_i e
      subst e
      have : xs[i] = n := (List.getElem?_eq_some_iff.1 h).2
      rw [this]
    · rfl
theorem newN_wrap {p : Int → Bool} {q : Int} {l : List Int} {gs : List (List Int × Bool)} (h : Grp p l gs) {y : Nd} (hy : y ∈ newN q gs) : y.f0 = aroundP q := by
  obtain ⟨g, rfl, -⟩ := grp_newN q h y hy
  rfl
theorem kindAt_new {xs : List Nd} {i : Nat} {n : Nd} (h : xs[i]? = some n) {k : Int} (h0 : (xs.length : Int) ≤ k) (h1 : k < xs.length + (newN n.f0 (grpsN xs n)).length) : kindAt (nodeStep xs i) k = aroundP n.f0 := by
  obtain ⟨j, rfl⟩ := Int.eq_ofNat_of_zero_le (show 0 ≤ k by omega)
  have hj : j - xs.length < (newN n.f0 (grpsN xs n)).length := by omega
  rw [nodeStep_eq h]
  refine (kindAt_nat (n := (newN n.f0 (grpsN xs n))[j - xs.length]) ?_).trans (newN_wrap (grpsN_grp xs n) (List.getElem_mem hj))
  rw [List.getElem?_append_right (by rw [List.length_set]; omega), List.length_set]
  exact List.getElem?_eq_getElem hj
theorem nodeStep_len {xs : List Nd} {i : Nat} {n : Nd} (h : xs[i]? = some n) : (nodeStep xs i).length = xs.length + (newN n.f0 (grpsN xs n)).length := by
  rw [nodeStep_eq h, List.length_append, List.length_set]

/-- the page while it is fixed: i nodes are done -/
structure StOK (N : Nat) (xs : List Nd) (i : Nat) : Prop where
  cnt : ∀ a : Int, ckid xs a = if 1 ≤ a ∧ a < xs.length then 1 else 0
  sum : kidsum xs + 1 = xs.length
  kind : ∀ n ∈ xs, 0 ≤ n.f0 ∧ n.f0 ≤ 10
  good : ∀ n ∈ xs, n.f1 ≠ [] → goodK n.f0
  pot : xs.length + potW (kindAt xs) xs ≤ 4 * N
  at_ : i ≤ xs.length
  done : ∀ (j : Nat) (n : Nd), j < i → xs[j]? = some n → ∀ k ∈ n.f1, mayB n.f0 (kindAt xs k) = true
theorem StOK.kid {N : Nat} {xs : List Nd} {i : Nat} (h : StOK N xs i) : ∀ n ∈ xs, ∀ k ∈ n.f1, 1 ≤ k ∧ k < (xs.length : Int) := by
  intro n hn k hk
  obtain ⟨j, hj⟩ := List.getElem?_of_mem hn
  have h1 := sum_at (fun n => n.f1.count k) hj
  have h2 := List.count_pos_iff.2 hk
  have h3 := h.cnt k
  unfold ckid at h3
  split at h3
  · assumption
  · omega
theorem kind_at {xs : List Nd} (hk : ∀ n ∈ xs, 0 ≤ n.f0 ∧ n.f0 ≤ 10) {k : Int} (h0 : 0 ≤ k) (h1 : k < xs.length) : 0 ≤ kindAt xs k ∧ kindAt xs k ≤ 10 := by
  obtain ⟨j, rfl⟩ := Int.eq_ofNat_of_zero_le h0
  have hj : j < xs.length := by omega
  rw [kindAt_nat (List.getElem?_eq_getElem hj)]
  exact hk _ (List.getElem_mem hj)
theorem StOK.step {N : Nat} {xs : List Nd} {i : Nat} (h : StOK N xs i) (hi : i < xs.length) : StOK N (nodeStep xs i) (i + 1) := by
  obtain ⟨n, hn⟩ : ∃ n, xs[i]? = some n := ⟨_, List.getElem?_eq_getElem hi⟩
  have hnm : n ∈ xs := List.mem_of_getElem? hn
  have hG := grpsN_grp xs n
  have hkid := h.kid n hnm
  have hlen := nodeStep_len hn
  have hnK := fun x => grp_newK n.f0 hG xs.length x
  have hnN := grp_newN n.f0 hG
  -- a kid that may not stand there
  have hstep : ∀ x ∈ n.f1, mayB n.f0 (kindAt xs x) = false → goodK (aroundP n.f0) ∧ mayB n.f0 (aroundP n.f0) = true ∧ needP n.f0 (kindAt xs x) = needP (aroundP n.f0) (kindAt xs x) + 1 ∧ (aroundP n.f0 = 2 ∨ aroundP n.f0 = 9 ∨ aroundP n.f0 = 10) := fun x hx hm => by
    have hk := hkid x hx
    have hkk := kind_at h.kind (show 0 ≤ x by omega) hk.2
    exact need_step (h.good n hnm (List.ne_nil_of_mem hx)) hkk.1 hkk.2 hm
  have hsome : 0 < (newN n.f0 (grpsN xs n)).length → ∃ x ∈ n.f1, mayB n.f0 (kindAt xs x) = false := fun hp => by
    obtain ⟨g, -, hg, hx⟩ := hnN _ (List.getElem_mem hp)
    obtain ⟨x, hxg⟩ := List.exists_mem_of_ne_nil _ hg
    exact ⟨x, hx x hxg⟩
  have hmem : ∀ y ∈ nodeStep xs i, y ∈ xs ∨ y = { n with f1 := newK xs.length (grpsN xs n) } ∨ y ∈ newN n.f0 (grpsN xs n) := fun y hy => by
    rw [nodeStep_eq hn, List.mem_append] at hy
    rcases hy with hy | hy
    · rcases List.mem_or_eq_of_mem_set hy with hy | hy
      · exact .inl hy
      · exact .inr (.inl hy)
    · exact .inr (.inr hy)
  have hK0 : ∀ m ∈ xs, ∀ k ∈ m.f1, kindAt (nodeStep xs i) k = kindAt xs k := fun m hm k hk => by
    have := h.kid m hm k hk
    exact kindAt_step hn (by omega) this.2
  have hmayK : ∀ x ∈ newK xs.length (grpsN xs n), mayB n.f0 (kindAt (nodeStep xs i) x) = true := fun x hx => by
    rcases hnK x hx with ⟨h1, h2⟩ | ⟨h1, h2⟩
    · rw [hK0 n hnm x h1]; exact h2
    · rw [kindAt_new hn h1 h2]
      obtain ⟨z, hz, hzm⟩ := hsome (by omega)
      exact (hstep z hz hzm).2.1
  refine ⟨fun a => ?_, ?_, fun y hy => ?_, fun y hy hne => ?_, ?_, by omega, fun j m hj hm k hk => ?_⟩
  · have h1 := h.cnt a
    have h2 := grp_count n.f0 a hG xs.length
    have h3 := sum_set (fun n => n.f1.count a) { n with f1 := newK xs.length (grpsN xs n) } hn
    unfold ckid at h1 ⊢
    rw [hlen]
    rw [nodeStep_eq hn, List.map_append, List.sum_append]
    dsimp only at h3
    by_cases q1 : 1 ≤ a ∧ a < (xs.length : Int)
    · rw [if_pos q1] at h1
      rw [show indP xs.length (newN n.f0 (grpsN xs n)).length a = 0 from if_neg (by omega)] at h2
      rw [if_pos (by omega)]
      omega
    · rw [if_neg q1] at h1
      by_cases q2 : (xs.length : Int) ≤ a ∧ a < xs.length + (newN n.f0 (grpsN xs n)).length
      · rw [show indP xs.length (newN n.f0 (grpsN xs n)).length a = 1 from if_pos q2] at h2
        have := h.sum
        rw [if_pos (by omega)]
        omega
      · rw [show indP xs.length (newN n.f0 (grpsN xs n)).length a = 0 from if_neg q2] at h2
        rw [if_neg (by omega)]
        omega
  · have h1 := h.sum
    have h2 := grp_len n.f0 hG xs.length
    have h3 := sum_set (fun n => n.f1.length) { n with f1 := newK xs.length (grpsN xs n) } hn
    unfold kidsum at h1 ⊢
    rw [hlen]
    rw [nodeStep_eq hn, List.map_append, List.sum_append]
    dsimp only at h3
    omega
  · rcases hmem y hy with hy | rfl | hy
    · exact h.kind y hy
    · exact h.kind n hnm
    · rw [newN_wrap hG hy]
      obtain ⟨x, hx, hxm⟩ := hsome (List.length_pos_of_mem hy)
      have := (hstep x hx hxm).2.2.2
      omega
  · rcases hmem y hy with hy | rfl | hy
    · exact h.good y hy hne
    · refine h.good n hnm (fun e => hne ?_)
      show newK xs.length (grpsN xs n) = []
      have h2 := grp_len n.f0 hG xs.length
      rw [e] at hG h2
      cases hq : grpsN xs n with
      | nil => rfl
      | cons g gs =>
        rw [hq] at hG
        generalize hl : ([] : List Int) = l at hG
        cases hG with
        | cons h0 _ _ _ =>
          have := congrArg List.length hl
          rw [List.length_append, List.length_nil] at this
          exact absurd (List.eq_nil_of_length_eq_zero (show _ = 0 by omega)) h0
    · rw [newN_wrap hG hy]
      obtain ⟨x, hx, hxm⟩ := hsome (List.length_pos_of_mem hy)
      exact (hstep x hx hxm).1
  · have h1 := h.pot
    rw [← potW_congr hK0] at h1
    have h2 := grp_pot (p := fun k => mayB n.f0 (kindAt xs k)) n.f0 (fun k => needP n.f0 (kindAt (nodeStep xs i) k)) (fun k => needP (aroundP n.f0) (kindAt (nodeStep xs i) k)) hG (fun x hx hm => by
      rw [hK0 n hnm x hx]
      exact (hstep x hx hm).2.2.1)
    have h3 := sum_set (fun n => (n.f1.map (fun k => needP n.f0 (kindAt (nodeStep xs i) k))).sum) { n with f1 := newK xs.length (grpsN xs n) } hn
    have h4 : ((newK xs.length (grpsN xs n)).map (fun k => needP n.f0 (kindAt (nodeStep xs i) k))).sum = 0 := by
      rw [List.sum_eq_zero_iff_forall_eq_nat]
      intro u hu
      obtain ⟨x, hx, rfl⟩ := List.mem_map.1 hu
      unfold needP
      rw [if_pos (hmayK x hx)]
    have h5 : ((newN n.f0 (grpsN xs n)).map (fun y => (y.f1.map (fun k => needP y.f0 (kindAt (nodeStep xs i) k))).sum)).sum = ((newN n.f0 (grpsN xs n)).map (fun y => (y.f1.map (fun k => needP (aroundP n.f0) (kindAt (nodeStep xs i) k))).sum)).sum := by
      congr 1
      apply List.map_congr_left
      intro y hy
      rw [newN_wrap hG hy]
    rw [hlen]
    have h6 : potW (kindAt (nodeStep xs i)) (nodeStep xs i) = ((xs.set i { n with f1 := newK xs.length (grpsN xs n) }).map (fun n => (n.f1.map (fun k => needP n.f0 (kindAt (nodeStep xs i) k))).sum)).sum + ((newN n.f0 (grpsN xs n)).map (fun y => (y.f1.map (fun k => needP y.f0 (kindAt (nodeStep xs i) k))).sum)).sum := by
      conv => lhs; unfold potW
      rw [← List.sum_append, ← List.map_append]
      congr 2
      exact nodeStep_eq hn
    rw [h6, h5]
    dsimp only at h3
    unfold potW at h1
    omega
  · rw [nodeStep_eq hn, List.getElem?_append_left (by rw [List.length_set]; omega)] at hm
    by_cases e : j = i
    · subst e
      rw [List.getElem?_set_self hi] at hm
      cases hm
      exact hmayK k hk
    · rw [List.getElem?_set_ne (fun h => e h.symm)] at hm
      rw [hK0 m (List.mem_of_getElem? hm) k hk]
      exact h.done j m (by omega) hm k hk
end Go.Proofs.Ytjhpkikgajgdmaa.K
namespace Go.Proofs.Ytjhpkikgajgdmaa.K
open Go.RowKit Go.Proofs.YtjhpkikgajgdmaaW.PrintWords Go.Proofs.YtjhpkikgajgdmaaW.PrintLast Go.Proofs.YtjhpkikgajgdmaaW.PrintMore
set_option linter.unusedVariables false
set_option linter.unusedSimpArgs false

/-- an append to a row of one's own: in the row itself, or nothing old is touched -/
theorem run_append_two {P : Program} (w : World) (base : Nat) (t ty e : TypeId) (i : TypeInfo) (z : Value) (size bytes : Nat) (ht : P.underlying t = some (.slice e)) (hi : P.info? e = some i) (hz : i.zero = some z)
    (hsize : i.size = size) (hby : i.bytes = bytes) (hzs : z.cells.size = size) (hsz : 0 < size)
    (g cap n : Nat) (xs : List Value) (hown : w.ownsRow base e size (.slice (some ⟨g, 0, none⟩) n cap) n xs)
    (a : Addr) (m c : Nat) (news : List Value) (hl : news.length = m * size) (hnews : ∀ j u, news[j]? = some u → w.cell? (a.add j) = some u) (h1 : ∀ u ∈ news, u.oneCell' = true)
    (h63 : n + m ≤ maxLen) (hbytes : (n + m) * bytes ≤ 140737488355328) (hbase : base ≤ w.heap.size) (hm : 0 < m) :
    ∃ g1 cap1 w', (Builtin.append_ #[t, t] ty #[.slice (some ⟨g, 0, none⟩) n cap, .slice (some a) m c]).run P w = .ok (.slice (some ⟨g1, 0, none⟩) (n + m) cap1) w' ∧ w'.ownsRow base e size (.slice (some ⟨g1, 0, none⟩) (n + m) cap1) (n + m) (xs ++ news) ∧
      (g1 = g ∧ w.grownBy w' (some g) ∨ w.heap.size ≤ g1 ∧ w.grownBy w' none) := by
  obtain ⟨v', w', hr, h2, h3, -, h5⟩ := run_append_own_at (P := P) w base t ty e i z size bytes ht hi hz hsize hby hzs hsz _ n xs hown a m c news hl hnews h1 h63 hbytes hbase
  obtain ⟨g1, cap1, rfl, hb1, hlt⟩ := h2.form (by omega)
  have e1 : (Value.slice (some ⟨g1, 0, none⟩) (n + m) cap1).ownBlock = some g1 := by simp [Value.ownBlock]
  have e2 : (Value.slice (some ⟨g, 0, none⟩) n cap).ownBlock = some g := by simp [Value.ownBlock]
  rw [e1, e2] at h5
  rw [e2] at h3
  refine ⟨g1, cap1, w', hr, h2, ?_⟩
  rcases h5 with h5 | h5
  · injection h5 with h5
    exact .inl ⟨h5, h3⟩
  · injection h5 with h5
    refine .inr ⟨by omega, ?_⟩
    by_cases hroom : n + m ≤ cap
    · exfalso
      have hglt := own_lt hown g e2
      rcases hown.2 with ⟨hv, _⟩ | ⟨g', cap', cur, hv, hbg, hg, hnc, hcm, hcs, htake⟩
      · cases hv
      · injection hv with hv1 hv2 hv3
        injection hv1 with hv1
        injection hv1 with hv1 _ _
        subst hv1 hv3
        subst hsize
        have hfit : n * i.size + news.length ≤ cur.size := by rw [hl, hcs, ← Nat.add_mul]; exact Nat.mul_le_mul_right _ hroom
        have hr2 := run_append_room_cells (P := P) w t ty e i ht hi g 0 n cap a m c news hl hnews h1 hroom
          (fun j hj => by rw [Nat.zero_add, cell_of_row w g _ cur e (0, 0) hg, Array.getElem?_eq_getElem (by omega)]; rfl)
          (fun j hj => by rw [Nat.zero_add]; exact frozen_of_row w g _ cur e hg)
        rw [hr] at hr2
        injection hr2 with hr2
        injection hr2 with hr2
        injection hr2 with hr2
        injection hr2 with hr2
        omega
    · obtain ⟨v2, w2, hr2, -, hg2⟩ := run_append_arg_grows (P := P) w t ty e i z size bytes ht hi hz hsize hby hzs hsz ⟨g, 0, none⟩ n cap xs hown.1 (hown.cells (g := g) rfl) a m c news hl hnews (by omega) h63 hbytes
      rw [hr] at hr2
      injection hr2 with _ hr2
      rw [hr2]; exact hg2

/-- in ok, and a block of cells -/
def LkC (ok : Nat → Prop) (W : World) (k : Nat) : Prop := ok k ∧ ∃ (cells : Array Value) (t : Nat), W.heap[k]? = some (.cells cells t (0, 0))
theorem fk_lk {α : Type} {d : Kd α} {W V : World} {ok ok' : Nat → Prop} {x : α} {c : List Value} (h : Kd.FK d W (LkC ok W) x c) (hm : ∀ k, ok k → k < W.heap.size → V.heap[k]? = W.heap[k]?) (hk : ∀ k, ok k → k < W.heap.size → ok' k) : Kd.FK d V (LkC ok' V) x c :=
  Kd.FK_mono (Kd.FK_step (Kd.FK_bound h) (fun k hk _ => hm k hk.1.1 hk.2)) (fun k hk' => ⟨hk k hk'.1.1 hk'.2, by
    obtain ⟨cells, t, hc⟩ := hk'.1.2
    exact ⟨cells, t, (hm k hk'.1.1 hk'.2).trans hc⟩⟩)
theorem f_lk {α : Type} {d : Kd α} {W V : World} {ok ok' : Nat → Prop} {A : Option Addr} {n : Nat} {xs : List α} (h : Kd.F d W (LkC ok W) A n xs) (hm : ∀ k, ok k → k < W.heap.size → V.heap[k]? = W.heap[k]?) (hk : ∀ k, ok k → k < W.heap.size → ok' k) : Kd.F d V (LkC ok' V) A n xs :=
  Kd.F_mono (Kd.F_step (Kd.F_bound h) (fun k hk _ => hm k hk.1.1 hk.2)) (fun k hk' => ⟨hk k hk'.1.1 hk'.2, by
    obtain ⟨cells, t, hc⟩ := hk'.1.2
    exact ⟨cells, t, (hm k hk'.1.1 hk'.2).trans hc⟩⟩)
theorem fk_of_m {α : Type} {d : Kd α} {W : World} {base : Nat} {ok ok' : Nat → Prop} {x : α} {c : List Value} (h : d.M W base ok x c) (hk : ∀ k, ok k → base ≤ k → ok' k) : Kd.FK d W (LkC ok' W) x c :=
  Kd.FK_mono (Kd.FK_of_M (d.M_bound h)) (fun k hk' => ⟨hk k hk'.1 hk'.2.1, by
    obtain ⟨q, _, cells, hc⟩ := hk'.2.2.2
    exact ⟨cells, q, hc⟩⟩)
theorem f_of_r {α : Type} {d : Kd α} {e : Nat} {W : World} {base : Nat} {ok ok' : Nat → Prop} {A : Option Addr} {n c : Nat} {xs : List α} (h : d.R e W base ok (.slice A n c) xs) (hk : ∀ k, ok k → base ≤ k → ok' k) : Kd.F d W (LkC ok' W) A n xs :=
  Kd.F_mono (Kd.R_F (Kd.R_bound h)) (fun k hk' => ⟨hk k hk'.1 hk'.2.1, by
    obtain ⟨q, _, cells, hc⟩ := hk'.2.2.2
    exact ⟨cells, q, hc⟩⟩)

/-- the nodes, each with what it leads to -/
structure OutI (w W : World) (ok : Nat → Prop) (O cap : Nat) (xs : List Nd) (rows : List (List Value)) : Prop where
  own : Kd.R (Kd.raw 34) 43 W w.heap.size (fun k => k = O) (.slice (some ⟨O, 0, none⟩) xs.length cap) rows
  len : rows.length = xs.length
  elem : ∀ (i : Nat) (x : Nd) (c : List Value), xs[i]? = some x → rows[i]? = some c → Kd.FK k43 W (LkC ok W) x c
section
variable {w W V : World} {ok ok' : Nat → Prop} {O cap : Nat} {xs : List Nd} {rows : List (List Value)}
theorem OutI.blk (h : OutI w W ok O cap xs rows) : ∃ cells, W.heap[O]? = some (.cells cells 43 (0, 0)) := by
  obtain ⟨inner, ho⟩ := Kd.R_own h.own
  exact own_typed ho O (by simp [Value.ownBlock])
theorem OutI.lt (h : OutI w W ok O cap xs rows) : O < W.heap.size := by
  obtain ⟨cells, hc⟩ := h.blk
  exact (Array.getElem?_eq_some_iff.1 hc).1
theorem OutI.base (h : OutI w W ok O cap xs rows) : w.heap.size ≤ O := Kd.R_base h.own O (by simp [Value.ownBlock])
theorem OutI.mono (h : OutI w W ok O cap xs rows) (hm : ∀ k, ok k → k < W.heap.size → ok' k) : OutI w W ok' O cap xs rows :=
  ⟨h.own, h.len, fun i x c hx hc => fk_lk (h.elem i x c hx hc) (fun _ _ _ => rfl) hm⟩
theorem OutI.step (h : OutI w W ok O cap xs rows) (h0 : V.heap[O]? = W.heap[O]?) (hm : ∀ k, ok k → k < W.heap.size → V.heap[k]? = W.heap[k]?) : OutI w V ok O cap xs rows :=
  ⟨Kd.R_step h.own (fun k hk _ => by rw [hk]; exact h0), h.len, fun i x c hx hc => fk_lk (h.elem i x c hx hc) hm (fun _ hk _ => hk)⟩
theorem OutI.grown {row : Option Nat} (h : OutI w W ok O cap xs rows) (hg : W.grownBy V row) (hO : some O ≠ row) (hr : ∀ k, ok k → some k ≠ row) : OutI w V ok O cap xs rows :=
  h.step (hg.block O h.lt hO) (fun k hk hlt => hg.block k hlt (hr k hk))
theorem OutI.below (h : OutI w W ok O cap xs rows) (hb : Below W.heap.size W V) : OutI w V ok O cap xs rows := h.step (hb.block O h.lt) (fun k _ hlt => hb.block k hlt)
theorem OutI.far (h : OutI w W ok O cap xs rows) (p : Addr) (u : Value) (h0 : O ≠ p.block) (hm : ∀ k, ok k → k ≠ p.block) : OutI w (W.setCell p u) ok O cap xs rows :=
  h.step (Below.heap_setCell W p u O h0) (fun k hk _ => Below.heap_setCell W p u k (hm k hk))
/-- node j's cells -/
theorem OutI.at_ (h : OutI w W ok O cap xs rows) {j : Nat} {x : Nd} (hx : xs[j]? = some x) : ∃ c, rows[j]? = some c ∧ c.length = 34 ∧ (∀ u ∈ c, u.oneCell' = true) ∧ Kd.FK k43 W (LkC ok W) x c ∧ (∀ q u, c[q]? = some u → W.cell? ⟨O, j * 34 + q, none⟩ = some u) ∧ ∀ q, W.frozen? ⟨O, j * 34 + q, none⟩ = false := by
  have hj : j < xs.length := (List.getElem?_eq_some_iff.1 hx).1
  obtain ⟨c, h1, h2, h3, h4⟩ := Kd.R_elem h.own ([] : List Value) ((j : Nat) : Int) (by omega) (by omega)
  rw [Int.toNat_natCast] at h2 h3 h4
  have hj' : j < rows.length := by rw [h.len]; exact hj
  have hr : rows[j]? = some rows[j] := List.getElem?_eq_getElem hj'
  rw [List.getD_eq_getElem?_getD, hr] at h2
  obtain rfl : c = rows[j] := h2.1
  exact ⟨_, hr, h1, h2.2.2, h.elem j x _ hx hr, h3, h4⟩
/-- cell q of node j is written -/
theorem OutI.put (h : OutI w W ok O cap xs rows) {j : Nat} {x x' : Nd} {c : List Value} (hx : xs[j]? = some x) (hc : rows[j]? = some c) (q : Nat) (u : Value) (hq : q < 34) (h1 : u.oneCell' = true)
    (hok : ∀ k, ok k → k ≠ O) (hM : Kd.FK k43 W (LkC ok W) x' (c.take q ++ [u] ++ c.drop (q + 1))) : OutI w (W.setCell ⟨O, j * 34 + q, none⟩ u) ok O cap (xs.set j x') (rows.set j (c.take q ++ [u] ++ c.drop (q + 1))) := by
  have hj : j < xs.length := (List.getElem?_eq_some_iff.1 hx).1
  obtain ⟨c0, hc0, hl, ho, hF, hcell, hfr⟩ := h.at_ hx
  rw [hc] at hc0
  cases hc0
  have h34 : (c.take q ++ [u] ++ c.drop (q + 1)).length = 34 := by simp; omega
  obtain ⟨s1, s2⟩ := Kd.R_seg h.own ((j : Nat) : Int) (by omega) (by omega) (c := c) (seg := [u]) (j := q) hl (by rw [Int.toNat_natCast]; exact hcell) (by show q + 1 ≤ 34; omega) (x' := c.take q ++ [u] ++ c.drop (q + 1)) (okp := fun _ => False)
    ⟨rfl, h34, fun v hv => by
      rcases List.mem_append.1 hv with hv | hv
      · rcases List.mem_append.1 hv with hv | hv
        · exact ho v (List.mem_of_mem_take hv)
        · rw [List.mem_singleton.1 hv]; exact h1
      · exact ho v (List.mem_of_mem_drop hv)⟩ (fun _ hk => hk.elim)
  rw [Int.toNat_natCast] at s1 s2
  refine ⟨by rw [List.length_set]; exact s1, by rw [List.length_set, List.length_set]; exact h.len, fun i y d hy hd => ?_⟩
  by_cases e : i = j
  · subst e
    rw [List.getElem?_set_self hj] at hy
    rw [List.getElem?_set_self (by rw [h.len]; exact hj)] at hd
    cases hy; cases hd
    exact fk_lk hM (fun k hk hlt => s2.block k hlt (fun e => hok k hk (by injection e))) (fun _ hk _ => hk)
  · rw [List.getElem?_set_ne (fun h => e h.symm)] at hy hd
    exact fk_lk (h.elem i y d hy hd) (fun k hk hlt => s2.block k hlt (fun e => hok k hk (by injection e))) (fun _ hk _ => hk)
end

/-- at the label: i nodes are done -/
structure FixI (w W : World) (b4 b6 i O cap : Nat) (xs : List Nd) (rows : List (List Value)) : Prop where
  out : OutI w W (fun k => w.heap.size ≤ k ∧ k ≠ b4 ∧ k ≠ b6 ∧ k ≠ O) O cap xs rows
  c4 : BlkIs W b4 25 #[.slice (some ⟨O, 0, none⟩) xs.length cap]
  c6 : BlkIs W b6 3 #[.int .i64 (i : Int)]
  hb : w.heap.size ≤ b4 ∧ b4 < b6
  b : Below w.heap.size w W

/-- what the nodes lead to while a node's runs are gone through -/
def LdP (w : World) (b4 b6 O0 S : Nat) (k : Nat) : Prop := (w.heap.size ≤ k ∧ k ≠ b4 ∧ k ≠ b6 ∧ k ≠ O0) ∧ k < S
/-- while a node's runs are gone through: ks are its kids so far -/
structure RndI (w : World) (b4 b6 S at_ O0 cap0 : Nat) (Ak : Option Addr) (n : Nd) (cs : List Value) (xs0 : List Nd) (W : World) (O cap : Nat) (ks : List Int) (xs : List Nd) (vk : Value) (rows : List (List Value)) : Prop where
  out : OutI w W (LdP w b4 b6 O0 S) O cap xs rows
  hO : O = O0 ∨ S + 2 < O
  kd : Kd.R (Kd.int .i64) 3 W S (fun k => S + 2 < k) vk ks
  c4 : BlkIs W b4 25 #[.slice (some ⟨O, 0, none⟩) xs.length cap]
  c6 : BlkIs W b6 3 #[.int .i64 (at_ : Int)]
  c7 : BlkIs W S 30 #[vk]
  c1 : BlkIs W (S + 1) 25 #[.slice (some ⟨O0, 0, none⟩) xs0.length cap0]
  c2 : BlkIs W (S + 2) 43 cs.toArray
  fk : Kd.F (Kd.int .i64) W (LkC (LdP w b4 b6 O0 S) W) Ak n.f1.length n.f1
  kinds : ∀ (j : Nat) (x : Nd), xs0[j]? = some x → W.cell? ⟨O0, j * 34, none⟩ = some (.int .i64 x.f0)
  b : Below w.heap.size w W
  hS : (w.heap.size ≤ b4 ∧ b4 < b6 ∧ b6 < S) ∧ w.heap.size ≤ O0 ∧ O0 < S ∧ O0 ≠ b4 ∧ O0 ≠ b6
section
variable {w W V : World} {b4 b6 S at_ O0 cap0 O cap : Nat} {Ak : Option Addr} {n : Nd} {cs : List Value} {xs0 xs : List Nd} {ks : List Int} {vk : Value} {rows : List (List Value)}
/-- new blocks; a turn of book-keeping -/
theorem RndI.book {row : Option Nat} (h : RndI w b4 b6 S at_ O0 cap0 Ak n cs xs0 W O cap ks xs vk rows) (hg : W.grownBy V row) (hr : ∀ r, row = some r → S + 2 < r ∧ ∃ o : Obj, W.heap[r]? = some o ∧ isBook o = true) :
    RndI w b4 b6 S at_ O0 cap0 Ak n cs xs0 V O cap ks xs vk rows := by
  have hS := h.hS
  have hne : ∀ k, k ≤ S + 2 → some k ≠ row := fun k hk e => by have := (hr k e.symm).1; omega
  have hO : some O ≠ row := fun e => by
    obtain ⟨-, o, ho, hb⟩ := hr O e.symm
    obtain ⟨cells, hc⟩ := h.out.blk
    rw [hc] at ho; cases ho; cases hb
  have hL : ∀ k, LdP w b4 b6 O0 S k → some k ≠ row := fun k hk => hne k (by have := hk.2; omega)
  exact ⟨h.out.grown hg hO hL, h.hO, R_book h.kd hg (fun r e => (hr r e).2), h.c4.grown hg (hne _ (by omega)), h.c6.grown hg (hne _ (by omega)), h.c7.grown hg (hne _ (by omega)), h.c1.grown hg (hne _ (by omega)), h.c2.grown hg (hne _ (by omega)),
    f_lk h.fk (fun k hk hlt => hg.block k hlt (hL k hk)) (fun _ hk _ => hk), fun j x hx => cell_kept (h.kinds j x hx) hg (fun r e => by
      obtain ⟨-, o, ho, hb⟩ := hr r e
      exact ⟨o, ho, book_not_cells hb⟩), pw_below_grown h.b row h.b.size hg (fun k e => by have := (hr k e).1; omega), h.hS⟩
theorem RndI.below (h : RndI w b4 b6 S at_ O0 cap0 Ak n cs xs0 W O cap ks xs vk rows) (hb : Below W.heap.size W V) : RndI w b4 b6 S at_ O0 cap0 Ak n cs xs0 V O cap ks xs vk rows :=
  h.book (grown_of_below hb none) (fun r e => by cases e)
theorem RndI.stab {α : Type} {B : Nat} (hB : S + 2 < B) (f : α → List Int × List Nd) :
    Stab B (fun (pre : α) W => ∃ O cap vk rows, RndI w b4 b6 S at_ O0 cap0 Ak n cs xs0 W O cap (f pre).1 (f pre).2 vk rows) := by
  rintro pre W V row ⟨O, cap, vk, rows, h⟩ hg hr
  exact ⟨O, cap, vk, rows, h.book hg (fun r e => ⟨by have := (hr r e).1; omega, (hr r e).2⟩)⟩
/-- the kids grew, and are stored -/
theorem RndI.kids (h : RndI w b4 b6 S at_ O0 cap0 Ak n cs xs0 W O cap ks xs vk rows) {W1 : World} {vk1 : Value} {ks1 : List Int} (hR : Kd.R (Kd.int .i64) 3 W1 S (fun k => S + 2 < k) vk1 ks1) (hg : W.grownBy W1 vk.ownBlock) (h1 : vk1.oneCell' = true) :
    RndI w b4 b6 S at_ O0 cap0 Ak n cs xs0 (W1.setCell ⟨S, 0, none⟩ vk1) O cap ks1 xs vk1 rows ∧ W1.cell? ⟨S, 0, none⟩ = some vk ∧ W1.frozen? ⟨S, 0, none⟩ = false ∧ S < W1.heap.size := by
  have hS := h.hS
  have hne : ∀ k, k ≤ S + 2 → some k ≠ vk.ownBlock := fun k hk e => by have := h.kd.1 k e.symm; omega
  have hO : some O ≠ vk.ownBlock := fun e => by
    obtain ⟨cells, hc⟩ := h.out.blk
    exact Kd.R_ne h.kd hc (by decide) e
  have hL : ∀ k, LdP w b4 b6 O0 S k → some k ≠ vk.ownBlock := fun k hk => hne k (by have := hk.2; omega)
  have c7 := h.c7.grown hg (hne _ (by omega))
  refine ⟨⟨(h.out.grown hg hO hL).far _ _ (by show O ≠ S; rcases h.hO with e | e <;> omega) (fun k hk => by have := hk.2; show k ≠ S; omega), h.hO, Kd.R_far (p := ⟨S, 0, none⟩) hR (fun k hk => by show k ≠ S; omega) vk1, ?_, ?_, BlkIs.set c7 0 vk1, ?_, ?_, ?_, fun j x hx => ?_, ?_, h.hS⟩, BlkIs.cell c7 0, BlkIs.frozen c7 0, BlkIs.lt c7⟩
  · exact BlkIs.other (h.c4.grown hg (hne _ (by omega))) (p := ⟨S, 0, none⟩) (by show b4 ≠ S; omega) _
  · exact BlkIs.other (h.c6.grown hg (hne _ (by omega))) (p := ⟨S, 0, none⟩) (by show b6 ≠ S; omega) _
  · exact BlkIs.other (h.c1.grown hg (hne _ (by omega))) (p := ⟨S, 0, none⟩) (by show S + 1 ≠ S; omega) _
  · exact BlkIs.other (h.c2.grown hg (hne _ (by omega))) (p := ⟨S, 0, none⟩) (by show S + 2 ≠ S; omega) _
  · exact f_lk h.fk (fun k hk hlt => (Below.heap_setCell W1 ⟨S, 0, none⟩ vk1 k (by have := hk.2; show k ≠ S; omega)).trans (hg.block k hlt (hL k hk))) (fun _ hk _ => hk)
  · rw [cell_far (by show O0 ≠ S; omega)]
    have hlt := World.block_lt_of_cell? W _ (h.kinds j x hx)
    exact (World.cell?_of_block (hg.block O0 hlt (hne _ (by omega)))).trans (h.kinds j x hx)
  · exact (pw_below_grown h.b _ h.b.size hg (fun k e => by have := h.kd.1 k e; omega)).setCell (p := ⟨S, 0, none⟩) (by show w.heap.size ≤ S; omega) _
/-- a node is appended, and the nodes are stored -/
theorem RndI.node (h : RndI w b4 b6 S at_ O0 cap0 Ak n cs xs0 W O cap ks xs vk rows) {W1 : World} {O1 cap1 : Nat} {y : Nd} {c : List Value} (hR : Kd.R (Kd.raw 34) 43 W1 w.heap.size (fun _ => True) (.slice (some ⟨O1, 0, none⟩) (xs.length + 1) cap1) (rows ++ [c]))
    (hg : O1 = O ∧ W.grownBy W1 (some O) ∨ W.heap.size ≤ O1 ∧ W.grownBy W1 none) (hF : Kd.FK k43 W (LkC (LdP w b4 b6 O0 S) W) y c) (hpos : ∀ (j : Nat) (x : Nd), xs0[j]? = some x → ∃ x', xs[j]? = some x' ∧ x'.f0 = x.f0) :
    RndI w b4 b6 S at_ O0 cap0 Ak n cs xs0 (W1.setCell ⟨b4, 0, none⟩ (.slice (some ⟨O1, 0, none⟩) (xs.length + 1) cap1)) O1 cap1 ks (xs ++ [y]) vk (rows ++ [c]) ∧ W1.cell? ⟨b4, 0, none⟩ = some (.slice (some ⟨O, 0, none⟩) xs.length cap) ∧ W1.frozen? ⟨b4, 0, none⟩ = false ∧ b4 < W1.heap.size := by
  have hS := h.hS
  obtain ⟨cellsO, hcO⟩ := h.out.blk
  have hlt := h.out.lt
  have hSW := BlkIs.lt h.c2
  -- what is written is O's row, at most
  obtain ⟨row, hgr, hrow⟩ : ∃ row, W.grownBy W1 row ∧ ∀ k, row = some k → k = O := by
    rcases hg with ⟨-, hg⟩ | ⟨-, hg⟩
    · exact ⟨_, hg, fun k e => by injection e with e; exact e.symm⟩
    · exact ⟨_, hg, fun k e => by cases e⟩
  have hty : ∀ b t (cs : Array Value), BlkIs W b t cs → t ≠ 43 → some b ≠ row := fun b t cs hb ht e => by
    have := hrow b e.symm
    subst this
    rw [show W.heap[b]? = _ from hb] at hcO
    cases hcO
    exact ht rfl
  have hL : ∀ k, LdP w b4 b6 O0 S k → some k ≠ row := fun k hk e => by
    have e1 := hrow k e.symm
    have e2 := hk.2
    have e3 := hk.1.2.2.2
    rcases h.hO with e4 | e4 <;> omega
  have hc2 : some (S + 2) ≠ row := fun e => by
    have e1 := hrow _ e.symm
    rcases h.hO with e4 | e4 <;> omega
  have c4 := h.c4.grown hgr (hty _ _ _ h.c4 (by decide))
  have hO1 : O1 = O0 ∨ S + 2 < O1 := by
    rcases hg with ⟨e, -⟩ | ⟨e, -⟩
    · rw [e]; exact h.hO
    · exact .inr (by omega)
  have hF1 : ∀ (i : Nat) (x : Nd) (d : List Value), (xs ++ [y])[i]? = some x → (rows ++ [c])[i]? = some d → Kd.FK k43 W1 (LkC (LdP w b4 b6 O0 S) W1) x d := fun i x d hx hd => by
    refine fk_lk (W := W) (ok := LdP w b4 b6 O0 S) ?_ (fun k hk hlt => hgr.block k hlt (hL k hk)) (fun _ hk _ => hk)
    rcases Nat.lt_or_ge i xs.length with hi | hi
    · rw [List.getElem?_append_left hi] at hx
      rw [List.getElem?_append_left (by rw [h.out.len]; exact hi)] at hd
      exact h.out.elem i x d hx hd
    · rw [List.getElem?_append_right hi] at hx
      rw [List.getElem?_append_right (by rw [h.out.len]; exact hi), h.out.len] at hd
      have e : i - xs.length = 0 := by
        have := (List.getElem?_eq_some_iff.1 hx).1
        simp at this; omega
      rw [e] at hx hd
      cases hx; cases hd
      exact hF
  have hout1 : OutI w W1 (LdP w b4 b6 O0 S) O1 cap1 (xs ++ [y]) (rows ++ [c]) := by
    refine ⟨?_, by simp [h.out.len], hF1⟩
    rw [List.length_append, List.length_singleton]
    exact Kd.R_mono (Kd.raw_tight hR) (fun k hk => by simpa [Value.ownBlock] using hk)
  have hkinds : ∀ (j : Nat) (x : Nd), xs0[j]? = some x → W1.cell? ⟨O0, j * 34, none⟩ = some (.int .i64 x.f0) := fun j x hx => by
    have hck := h.kinds j x hx
    have hlt0 := World.block_lt_of_cell? W _ hck
    by_cases q : some O0 = row
    · have hOO := hrow O0 q.symm
      rcases hg with ⟨e, -⟩ | ⟨-, hg⟩
      · obtain ⟨x', hx', hk⟩ := hpos j x hx
        obtain ⟨d, -, -, -, hd, hcell, -⟩ := hout1.at_ (j := j) (x := x') (by rw [List.getElem?_append_left (List.getElem?_eq_some_iff.1 hx').1]; exact hx')
        obtain ⟨A1, c1, A3, c3, hd', -⟩ := k43_open (Kd.FK_now hd)
        have := hcell 0 (.int .i64 x'.f0) (by rw [hd']; rfl)
        rw [e, ← hOO, hk] at this
        exact this
      · exact (World.cell?_of_block (hg.block O0 hlt0 (by simp))).trans hck
    · exact (World.cell?_of_block (hgr.block O0 hlt0 q)).trans hck
  refine ⟨⟨hout1.far _ _ (by show O1 ≠ b4; rcases hO1 with e | e <;> omega) (fun k hk => hk.1.2.1), hO1, ?_, ?_, ?_, ?_, ?_, ?_, ?_, fun j x hx => ?_, ?_, h.hS⟩, BlkIs.cell c4 0, BlkIs.frozen c4 0, BlkIs.lt c4⟩
  · refine Kd.R_far (p := ⟨b4, 0, none⟩) (Kd.R_mono (Kd.R_grown (Kd.R_bound h.kd) hgr (fun k hk e => ?_)) (fun k hk => hk.1)) (fun k hk => by show k ≠ b4; omega) _
    obtain ⟨-, -, -, q, hq, cells, hc⟩ := hk
    have e1 := hrow k e.symm
    subst e1
    rw [hc] at hcO
    cases hcO
    revert hq
    decide
  · rw [List.length_append, List.length_singleton]
    exact BlkIs.set c4 0 _
  · exact BlkIs.other (h.c6.grown hgr (hty _ _ _ h.c6 (by decide))) (p := ⟨b4, 0, none⟩) (by show b6 ≠ b4; omega) _
  · exact BlkIs.other (h.c7.grown hgr (hty _ _ _ h.c7 (by decide))) (p := ⟨b4, 0, none⟩) (by show S ≠ b4; omega) _
  · exact BlkIs.other (h.c1.grown hgr (hty _ _ _ h.c1 (by decide))) (p := ⟨b4, 0, none⟩) (by show S + 1 ≠ b4; omega) _
  · exact BlkIs.other (h.c2.grown hgr hc2) (p := ⟨b4, 0, none⟩) (by show S + 2 ≠ b4; omega) _
  · exact f_lk h.fk (fun k hk hlt => (Below.heap_setCell W1 ⟨b4, 0, none⟩ _ k hk.1.2.1).trans (hgr.block k hlt (hL k hk))) (fun _ hk _ => hk)
  · rw [cell_far (by show O0 ≠ b4; omega)]
    exact hkinds j x hx
  · exact (pw_below_grown h.b _ h.b.size hgr (fun k e => by rw [hrow k e]; exact h.out.base)).setCell (p := ⟨b4, 0, none⟩) (by show w.heap.size ≤ b4; omega) _
end

theorem RndI.close {w V : World} {b4 b6 S i O0 cap0 O cap : Nat} {Ak : Option Addr} {n : Nd} {cs : List Value} {xs0 xs : List Nd} {ks : List Int} {Av : Option Addr} {cv : Nat} {rows : List (List Value)}
    (h : RndI w b4 b6 S i O0 cap0 Ak n cs xs0 V O cap ks xs (.slice Av ks.length cv) rows) (hn : xs[i]? = some n)
    (hkids : ∀ (ok : Nat → Prop) (c : List Value), Kd.FK k43 V ok n c → Kd.F (Kd.int .i64) V ok Av ks.length ks → Kd.FK k43 V ok { n with f1 := ks } (c.take 1 ++ [.slice Av ks.length cv] ++ c.drop (1 + 1))) :
    (∃ rows', FixI w ((V.setCell ⟨O, i * 34 + 1, none⟩ (.slice Av ks.length cv)).setCell ⟨b6, 0, none⟩ (.int .i64 ((i + 1 : Nat) : Int))) b4 b6 (i + 1) O cap (xs.set i { n with f1 := ks }) rows') ∧
      (∃ u, V.cell? ⟨O, i * 34 + 1, none⟩ = some u) ∧ V.frozen? ⟨O, i * 34 + 1, none⟩ = false ∧ O < V.heap.size ∧ (V.setCell ⟨O, i * 34 + 1, none⟩ (.slice Av ks.length cv)).cell? ⟨b6, 0, none⟩ = some (.int .i64 (i : Int)) ∧ (V.setCell ⟨O, i * 34 + 1, none⟩ (.slice Av ks.length cv)).frozen? ⟨b6, 0, none⟩ = false ∧ b6 < V.heap.size ∧ O ≠ b6 ∧ O ≠ b4 := by
  have hS := h.hS
  obtain ⟨cellsO, hcO⟩ := h.out.blk
  obtain ⟨c, hc, hcl, hone, hFK, hcell, hfr⟩ := h.out.at_ hn
  have hO4 : O ≠ b4 := by rcases h.hO with e | e <;> omega
  have hO6 : O ≠ b6 := by rcases h.hO with e | e <;> omega
  have hL : ∀ k, LdP w b4 b6 O0 S k → k < V.heap.size → (w.heap.size ≤ k ∧ k ≠ b4 ∧ k ≠ b6 ∧ k ≠ O) := fun k hk _ => ⟨hk.1.1, hk.1.2.1, hk.1.2.2.1, by have := hk.2; have := hk.1.2.2.2; rcases h.hO with e | e <;> omega⟩
  have hF : Kd.F (Kd.int .i64) V (LkC (fun k => w.heap.size ≤ k ∧ k ≠ b4 ∧ k ≠ b6 ∧ k ≠ O) V) Av ks.length ks := f_of_r (Kd.R_types h.kd hcO (by decide)) (fun k hk _ => ⟨by have := hk.1; omega, by have := hk.1; omega, by have := hk.1; omega, hk.2⟩)
  have hM := hkids _ c (fk_lk hFK (fun _ _ _ => rfl) hL) hF
  have hput := ((h.out.mono hL).put hn hc 1 (.slice Av ks.length cv) (by decide) rfl (fun k hk => hk.2.2.2) hM).far ⟨b6, 0, none⟩ (.int .i64 ((i + 1 : Nat) : Int)) hO6 (fun k hk => hk.2.2.1)
  have c6 := BlkIs.other h.c6 (p := ⟨O, i * 34 + 1, none⟩) (fun e => hO6 e.symm) (.slice Av ks.length cv)
  have hlt34 : 1 < c.length := by omega
  refine ⟨⟨_, hput, ?_, BlkIs.set c6 0 _, ⟨hS.1.1, hS.1.2.1⟩, (h.b.setCell (p := ⟨O, i * 34 + 1, none⟩) h.out.base _).setCell (p := ⟨b6, 0, none⟩) (by show w.heap.size ≤ b6; omega) _⟩, ⟨_, hcell 1 _ (List.getElem?_eq_getElem hlt34)⟩, hfr 1, h.out.lt, BlkIs.cell c6 0, BlkIs.frozen c6 0, BlkIs.lt h.c6, hO6, hO4⟩
  rw [List.length_set]
  exact BlkIs.other (BlkIs.other h.c4 (p := ⟨O, i * 34 + 1, none⟩) (fun e => hO4 e.symm) _) (p := ⟨b6, 0, none⟩) (by show b4 ≠ b6; omega) _
theorem RndI.grow {w W : World} {b4 b6 S at_ O0 cap0 O cap : Nat} {Ak : Option Addr} {n : Nd} {cs : List Value} {xs0 xs : List Nd} {ks : List Int} {vk : Value} {rows : List (List Value)}
    (h : RndI w b4 b6 S at_ O0 cap0 Ak n cs xs0 W O cap ks xs vk rows) (hpos : ∀ (j : Nat) (x : Nd), xs0[j]? = some x → ∃ x', xs[j]? = some x' ∧ x'.f0 = x.f0) {y : Nd} {c : List Value} (hF : Kd.FK k43 W (LkC (LdP w b4 b6 O0 S) W) y c) (hxl : xs.length ≤ 1000000) (ty : TypeId) :
    ∃ O1 cap1 W6, (Builtin.append_ #[25, 25] ty #[.slice (some ⟨O, 0, none⟩) xs.length cap, .slice (some ⟨W.heap.size, 0, none⟩) 1 1]).run Try.prog (W.alloc (.cells c.toArray 43)) = .ok (.slice (some ⟨O1, 0, none⟩) (xs.length + 1) cap1) W6 ∧
      (RndI w b4 b6 S at_ O0 cap0 Ak n cs xs0 (W6.setCell ⟨b4, 0, none⟩ (.slice (some ⟨O1, 0, none⟩) (xs.length + 1) cap1)) O1 cap1 ks (xs ++ [y]) vk (rows ++ [c]) ∧ W6.cell? ⟨b4, 0, none⟩ = some (.slice (some ⟨O, 0, none⟩) xs.length cap) ∧ W6.frozen? ⟨b4, 0, none⟩ = false ∧ b4 < W6.heap.size) ∧ KeepBook W W6 := by
  have h5 := h.below (below_alloc (Below.refl _ W) (.cells c.toArray 43))
  have hF5 : Kd.FK k43 (W.alloc (.cells c.toArray 43)) (LkC (LdP w b4 b6 O0 S) (W.alloc (.cells c.toArray 43))) y c := fk_lk hF (fun k _ hlt => Below.heap_alloc W _ k hlt) (fun _ hk _ => hk)
  have hc34 : c.length = 34 := k43.K_len (Kd.FK_now hF)
  have hone : ∀ u ∈ c, u.oneCell' = true := k43.K_one (Kd.FK_now hF)
  obtain ⟨i0, hi, hzz⟩ := Option.map_eq_some_iff.1 info43
  simp only [Prod.mk.injEq] at hzz
  obtain ⟨hz0, hz1, hz2⟩ := hzz
  obtain ⟨h0, inner, hown, hr⟩ := Kd.raw_any h5.out.own
  obtain ⟨O1, cap1, W6, hrun, hown6, hg⟩ := run_append_two (W.alloc (.cells c.toArray 43)) w.heap.size 25 ty 43 i0 _ 34 288 Try.underlying25 hi hz0 hz1 hz2 rfl (by decide) O cap xs.length inner (by have := hown; rw [h5.out.len] at this; exact this) ⟨W.heap.size, 0, none⟩ 1 1 c (by omega)
    (by simpa using World.news_of_block (cs := c.toArray) (t := 43) (fr := (0, 0)) (heap_alloc_new W (.cells c.toArray 43))) hone (by simp only [maxLen]; omega) (by omega) h5.b.size (by omega)
  have hR : Kd.R (Kd.raw 34) 43 W6 w.heap.size (fun _ => True) (.slice (some ⟨O1, 0, none⟩) (xs.length + 1) cap1) (rows ++ [c]) := by
    refine Kd.R_appended (d := Kd.raw 34) (okp := fun _ => False) (W := W.alloc (.cells c.toArray 43)) h0 hr (p := c) (cs := c) ⟨rfl, hc34, hone⟩ (fun _ hk => hk.elim) (fun _ _ => trivial) (by rw [h5.out.len]; exact hown6) ?_ ?_
    · rcases hg with ⟨-, hg⟩ | ⟨-, hg⟩
      · simpa [Value.ownBlock] using hg
      · exact ⟨hg.os, hg.tape, hg.output, hg.size, fun k hk _ => hg.block k hk (by simp)⟩
    · rcases hg with ⟨e, -⟩ | ⟨e, -⟩
      · left; simp [Value.ownBlock, e]
      · right; exact ⟨O1, by simp [Value.ownBlock], e⟩
  refine ⟨O1, cap1, W6, hrun, h5.node hR hg hF5 hpos, ?_⟩
  have hkb : KeepBook W (W.alloc (.cells c.toArray 43)) := (KeepBook.refl W).alloc _
  obtain ⟨cellsO, hcO⟩ := h5.out.blk
  rcases hg with ⟨-, hg⟩ | ⟨-, hg⟩
  · refine hkb.grown hg (fun j o e ho => ?_)
    injection e with e
    rw [← e, hcO] at ho; cases ho; rfl
  · exact hkb.grown hg (fun j o e ho => by cases e)
/-! laws of the walk -/
theorem of_if_pos {c A B : Prop} [Decidable c] (hc : c) (h : if c then A else B) : A := by rwa [if_pos hc] at h
theorem rowsIn_of' {P : Program} {row : String} {args : Array Value} {w : World} {n : Nat} {R : Value → World → Prop} (h : Rows P row args w R) : RowsIn Fence.wide n P row args w R :=
  fun c cs _ => let ⟨v, w', r, s⟩ := h c cs; ⟨v, w', r, stepsIn_wide.2 s⟩
theorem opIn_round {P : Program} {o : Oper} {a : Act} {w : World} {K : Act → World → Prop} {Q : Exit → Act → World → Prop} {lp : Nat} (hdef : ∀ c, o.op ≠ .defer c) (h : Oper.wp P o a w K Q) : Oper.wpIn (Fence.wide.inRound lp) 0 P o a w K Q := by
  refine ⟨fun _ _ => trivial, ?_⟩
  unfold Oper.wp at h
  show Oper.uponIn (Fence.wide.inRound lp) 0 P o a K Q ((Oper.semAt (some lp) a.eval o).run P w)
  rw [Oper.semAt_some lp a.eval o hdef]
  generalize (execOp a.eval o).run P w = r at h
  match r, h with
  | .ok (.value v) w', h => exact h
  | .ok .skip w', h => exact h
  | .ok (.defer d) w', h => exact h
  | .ok (.enter f args) w', h => exact ⟨fun h => by simp [Fence.wide, Fence.inRound] at h, CallsIn.inRound _ (callsIn_wide.2 h)⟩
  | .ok (.row row args) w', h => exact ⟨fun h => by simp [Fence.wide, Fence.inRound] at h, (rowsIn_of' h : RowsIn Fence.wide 0 P row args w' _)⟩
  | .halt (.panic v) w', h => exact h
theorem listIn_of_wp {P : Program} {ops : Array Oper} {rest : List Oper} {o : Oper} {a : Act} {w : World} {Q : Exit → Act → World → Prop} {lp : Nat} (hgd : o.guard = none) (hdef : ∀ c, o.op ≠ .defer c)
    (h : ∀ K : Act → World → Prop, (∀ a' w', wpListIn (Fence.wide.inRound lp) 0 P ops Q rest a' w' → K a' w') → Oper.wp P o a w K Q) : wpListIn (Fence.wide.inRound lp) 0 P ops Q (o :: rest) a w :=
  wpListIn_plain hgd fun K hK => opIn_round hdef (h K (fun a' w' h => hK a' w' h))
def onlyN (Q : Exit → Act → World → Prop) : Exit → Act → World → Prop
  | .normal, a, w => Q .normal a w
  | _, _, _ => False
theorem wp_onlyN {P : Program} {c : Code} {Q : Exit → Act → World → Prop} {a : Act} {w : World} (h : c.wp P (onlyN Q) a w) : c.wp P Q a w :=
  Code.wp_mono (fun e a w q => by cases e <;> first | exact q | exact q.elim) h

/-! runs -/
theorem runsG_mem (m : Nat → Bool) (n : Nat) : ∀ (d f i : Nat), i + d = n → f ≤ i → ∀ x ∈ runsG m n d f i, x.1 < x.2.1 ∧ x.2.1 ≤ n
  | 0, _, _, _, _, x, hx => by simp [runsG] at hx
  | d + 1, f, i, hi, hf, x, hx => by
    rw [runsG] at hx
    split at hx
    · exact runsG_mem m n d f (i + 1) (by omega) (by omega) x hx
    · rcases List.mem_cons.1 hx with rfl | hx
      · exact ⟨by show f < i + 1; omega, by show i + 1 ≤ n; omega⟩
      · exact runsG_mem m n d (i + 1) (i + 1) (by omega) (by omega) x hx
theorem runsN_mem {xs : List Nd} {n : Nd} {x : Nat × Nat × Bool} (h : x ∈ runsN xs n) : x.1 < x.2.1 ∧ x.2.1 ≤ n.f1.length := runsG_mem _ _ _ 0 0 (by omega) (by omega) x h
theorem runStep_pre (n : Nd) : ∀ (rs : List (Nat × Nat × Bool)) (s : List Int × List Nd), (∃ A, (rs.foldl (runStep n) s).1 = s.1 ++ A) ∧ ∃ B, (rs.foldl (runStep n) s).2 = s.2 ++ B
  | [], s => ⟨⟨[], by simp⟩, [], by simp⟩
  | x :: rs, s => by
    rw [List.foldl_cons]
    obtain ⟨⟨A, hA⟩, B, hB⟩ := runStep_pre n rs (runStep n s x)
    rw [hA, hB]
    unfold runStep grpStep
    split
    · exact ⟨⟨cutI n.f1 x ++ A, by simp⟩, B, rfl⟩
    · exact ⟨⟨(s.2.length : Int) :: A, by simp⟩, wrapN n.f0 (cutI n.f1 x) :: B, by simp⟩
/-- what has come about within a node's runs is bounded -/
theorem round_le {N : Nat} {xs : List Nd} {i : Nat} {n : Nd} (h : StOK N xs i) (hn : xs[i]? = some n) {pre rest : List (Nat × Nat × Bool)} (hx : runsN xs n = pre ++ rest) :
    (pre.foldl (runStep n) ([], xs)).2.length ≤ 4 * N ∧ (pre.foldl (runStep n) ([], xs)).1.length ≤ 8 * N ∧ xs.length ≤ 4 * N ∧ n.f1.length ≤ 4 * N := by
  have hi : i < xs.length := (List.getElem?_eq_some_iff.1 hn).1
  have h1 := (h.step hi).pot
  have hlen := nodeStep_len hn
  have hall : (runsN xs n).foldl (runStep n) ([], xs) = ([] ++ newK xs.length (grpsN xs n), xs ++ newN n.f0 (grpsN xs n)) := by rw [run_fold, grp_fold]; rfl
  rw [hx, List.foldl_append] at hall
  obtain ⟨⟨A, hA⟩, B, hB⟩ := runStep_pre n rest (pre.foldl (runStep n) ([], xs))
  have e1 : (newK xs.length (grpsN xs n)).length = (pre.foldl (runStep n) ([], xs)).1.length + A.length := by rw [← List.length_append, ← hA, hall]; rfl
  have e2 : xs.length + (newN n.f0 (grpsN xs n)).length = (pre.foldl (runStep n) ([], xs)).2.length + B.length := by rw [← List.length_append, ← List.length_append, ← hB, hall]
  have h2 := grp_len n.f0 (grpsN_grp xs n) xs.length
  have h3 := sum_at (fun n => n.f1.length) hn
  have h4 := h.sum
  have h5 := h.pot
  unfold kidsum at h4
  omega
theorem cutI_len {l : List Int} {x : Nat × Nat × Bool} (h1 : x.2.1 ≤ l.length) : (cutI l x).length = x.2.1 - x.1 := by
  unfold cutI; rw [List.length_drop, List.length_take]; omega
/-- a run's slice is read -/
theorem run_F {W : World} {ok : Nat → Prop} {A : Option Addr} {l : List Int} {c : Nat} {x : Nat × Nat × Bool} (h : Kd.F (Kd.int .i64) W ok A l.length l) (hc : l.length ≤ c) (h1 : x.1 < x.2.1) (h2 : x.2.1 ≤ l.length) :
    Kd.F (Kd.int .i64) W ok (A.map (·.add x.1)) (cutI l x).length (cutI l x) := by
  have := Kd.F_mid (lo := x.1) (hi := x.2.1) (c := c) h (by omega) h2 hc
  rw [if_neg (by omega)] at this
  rw [show (Kd.int .i64).sz = 1 from rfl] at this
  simp only [Nat.mul_one] at this
  exact this
/-- the cells of what is laid around a run -/
def nvW (k : Int) (v : Value) : List Value := .int .i64 k :: v :: ((styN sty1).cells.toList ++ [.slice none 0 0, .int .i64 0, .int .i64 0])
theorem nvW_FK {W : World} {ok : Nat → Prop} {p : Int} {g : List Int} {A : Option Addr} {cp : Nat} (hl : g.length ≤ cp) (hF : Kd.F (Kd.int .i64) W ok A g.length g) : Kd.FK k43 W ok (wrapN p g) (nvW (aroundP p) (.slice A g.length cp)) :=
  k43_mkF W ok (wrapN p g) hl hF (A31 := none) (c31 := 0) (Nat.le_refl 0) (Kd.F_nil _ W ok)
theorem litW_build (W : World) (k : Int) (A : Option Addr) (m c : Nat) : (Instr.buildSlice 25 1 #[(0, .agg (nvW k (.slice A m c)).toArray)]).run Try.prog W =
    .ok (.slice (some ⟨W.heap.size, 0, none⟩) 1 1) (W.alloc (.cells (nvW k (.slice A m c)).toArray 43)) := by kernel_rfl
theorem nodeW_build (W : World) (k : Int) (A : Option Addr) (m c : Nat) : (Instr.build 43 #[(0, .int .i64 k), (1, .slice A m c), (2, .agg (styN sty1).cells)]).run Try.prog W =
    .ok (.agg (nvW k (.slice A m c)).toArray) W := by kernel_rfl
theorem styW_build (W : World) : (Instr.build 40 #[(4, .int .i64 1), (5, .int .i64 1)]).run Try.prog W = .ok (.agg (styN sty1).cells) W := by kernel_rfl
theorem if_of {c A B : Prop} [Decidable c] (hc : c) (h : A) : if c then A else B := by rw [if_pos hc]; exact h
theorem exec_build {P : Program} {o : Oper} {ev : Operand → Value} {w : World} (t : Nat) (p : Array (Nat × Operand)) (ho : o.op = .build t p) {v : Value} (q : Array (Nat × Value)) (hq : (p.map fun (i, x) => (i, ev x)) = q)
    (hrun : (Instr.build t q).run P w = .ok v w) : (execOp ev o).run P w = .ok (.value v) w := by
  subst hq
  simp only [execOp, ho]
  rw [Sem.run_bind, show (p.map fun x => (x.1, ev x.2)) = (p.map fun (i, x) => (i, ev x)) from rfl, hrun]; rfl
theorem op_buildSlice {P : Program} {o : Oper} {a : Act} {w w1 : World} {K : Act → World → Prop} {Q : Exit → Act → World → Prop} (t n : Nat) (p : Array (Nat × Operand)) (ho : o.op = .buildSlice t n p) (v : Value) (q : Array (Nat × Value)) (hq : (p.map fun (i, x) => (i, a.eval x)) = q)
    (hrun : (Instr.buildSlice t n q).run P w = .ok v w1) (h : K (a.put o.dst v) w1) : Oper.wp P o a w K Q := by
  subst hq
  unfold Oper.wp
  simp only [execOp, ho]
  have e : ((do let v ← Instr.buildSlice t n (p.map fun x => (x.1, a.eval x.2)); pure (Next.value v) : Sem Next)).run P w = .ok (.value v) w1 := by
    rw [Sem.run_bind, show (p.map fun x => (x.1, a.eval x.2)) = (p.map fun (i, x) => (i, a.eval x)) from rfl, hrun]; rfl
  show Oper.upon P o a K Q _
  first
    | rw [e]
    | erw [e]
  exact h
end Go.Proofs.Ytjhpkikgajgdmaa.K
