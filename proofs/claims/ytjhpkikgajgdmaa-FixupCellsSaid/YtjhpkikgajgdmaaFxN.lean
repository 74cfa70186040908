/- Layer 5, plain: what is fixed is a page; fixed again it is the same. -/
import Derived.Test.YtjhpkikgajgdmaaFxQ
import Derived.Test.YtjhpkikgajgdmaaFxS
import Derived.Test.YtjhpkikgajgdmaaStP
namespace Go.Proofs.Ytjhpkikgajgdmaa.K
open Go.RowKit Go.Proofs.YtjhpkikgajgdmaaW.PrintWords Go.Proofs.YtjhpkikgajgdmaaW.PrintLast Go.Proofs.YtjhpkikgajgdmaaW.PrintMore
set_option linter.unusedVariables false
set_option linter.unusedSimpArgs false

/-! all kids may stand -/
theorem grp_may {p : Int → Bool} (q : Int) : ∀ {l : List Int} {gs : List (List Int × Bool)}, Grp p l gs → (∀ x ∈ l, p x = true) → ∀ b, newK b gs = l ∧ newN q gs = []
  | _, _, .nil, _, b => ⟨rfl, rfl⟩
  | _, _, .cons (g := g) (b := true) (gs := gs) _ _ _ h, hp, b => by
    obtain ⟨h1, h2⟩ := grp_may q h (fun x hx => hp x (List.mem_append_right _ hx)) b
    exact ⟨by show g ++ newK b gs = _; rw [h1], h2⟩
  | _, _, .cons (g := g) (b := false) (gs := gs) h0 h1 _ h, hp, b => by
    obtain ⟨x, hx⟩ := List.exists_mem_of_ne_nil _ h0
    have := hp x (List.mem_append_left _ hx)
    rw [h1 x hx] at this
    cases this
theorem step_same {xs : List Nd} {i : Nat} {n : Nd} (hn : xs[i]? = some n) (hp : ∀ k ∈ n.f1, mayB n.f0 (kindAt xs k) = true) : nodeStep xs i = xs := by
  obtain ⟨h1, h2⟩ := grp_may n.f0 (grpsN_grp xs n) hp xs.length
  rw [nodeStep_eq hn, h1, h2, List.append_nil]
  apply List.ext_getElem?
  intro j
  by_cases e : i = j
  · subst e
    rw [List.getElem?_set_self (List.getElem?_eq_some_iff.1 hn).1, hn]
  · rw [List.getElem?_set_ne e]
theorem fixedB_node {xs : List Nd} (h : fixedB xs = true) {n : Nd} (hn : n ∈ xs) : ∀ k ∈ n.f1, mayB n.f0 (kindAt xs k) = true := by
  have := List.all_eq_true.1 h n hn
  exact List.all_eq_true.1 this
theorem go_same {xs : List Nd} (h : fixedB xs = true) : ∀ k i, fixGo k i xs = xs
  | 0, i => rfl
  | k + 1, i => by
    unfold fixGo
    by_cases q : i < xs.length
    · rw [if_pos q, step_same (List.getElem?_eq_getElem q) (fixedB_node h (List.getElem_mem q)), go_same h k (i + 1)]
    · rw [if_neg q]
theorem kindAt_comp (l : List Nd) (k : Int) : kindAt (compP l) k = kindAt l k := by
  unfold kindAt rd_T43 compP
  rw [List.getD_eq_getElem?_getD, List.getD_eq_getElem?_getD, List.getElem?_map]
  cases l[k.toNat]? <;> rfl
theorem fixed_comp (l : List Nd) : fixedB (compP l) = fixedB l := by
  unfold fixedB nodeOK
  conv => lhs; unfold compP
  rw [List.all_map]
  congr 1
  funext n
  show (compN n).f1.all (fun k => mayB (compN n).f0 (kindAt (compP l) k)) = _
  congr 1
  funext k
  rw [kindAt_comp]; rfl
theorem fixed_len {l : List Nd} (h : fixedB l = true) : fixP l = compP l := go_same (by rw [fixed_comp]; exact h) _ _
theorem fix_fixed {l : List Nd} (h : PageOK l) : fixedB (fixP l) = true := by
  unfold fixedB nodeOK
  rw [List.all_eq_true]
  intro n hn
  rw [List.all_eq_true]
  exact fun k hk => (fix_stands h n hn k hk).2

/-! what is fixed is a page -/
/-- nodes are right, styles are computed; all are reached -/
structure PgOK (xs : List Nd) : Prop where
  right : ∀ n ∈ xs, rightN n = true
  sty : ∀ n ∈ xs, compN n = n
  reach : ∀ i : Nat, i < xs.length → Reach xs (i : Int)
theorem rightN_kids {n : Nd} {ks : List Int} (h : rightN n = true) (hk : n.f1 = [] → ks = []) : rightN { n with f1 := ks } = true := by
  rw [show rightN n = (headB n && n.f3.all lengthB && lengthB n.f4 && lengthB n.f5 && (if n.f0 = 1 then decide (n.f1.length = 0) else if n.f0 = 5 then decide (n.f1.length = 0) && bareB n else bareB n)) from rfl] at h
  show (headB n && n.f3.all lengthB && lengthB n.f4 && lengthB n.f5 && (if n.f0 = 1 then decide (ks.length = 0) else if n.f0 = 5 then decide (ks.length = 0) && bareB n else bareB n)) = true
  rw [Bool.and_eq_true] at h ⊢
  refine ⟨h.1, ?_⟩
  have h2 := h.2
  by_cases e1 : n.f0 = 1
  · rw [if_pos e1] at h2 ⊢
    rw [hk (List.eq_nil_of_length_eq_zero (by simpa using h2))]; rfl
  · rw [if_neg e1] at h2 ⊢
    by_cases e5 : n.f0 = 5
    · rw [if_pos e5] at h2 ⊢
      rw [Bool.and_eq_true] at h2 ⊢
      refine ⟨?_, h2.2⟩
      rw [hk (List.eq_nil_of_length_eq_zero (by simpa using h2.1))]; rfl
    · rw [if_neg e5] at h2 ⊢
      exact h2
theorem rightN_wrap {q : Int} {g : List Int} (h : aroundP q = 2 ∨ aroundP q = 9 ∨ aroundP q = 10) : rightN (wrapN q g) = true ∧ compN (wrapN q g) = wrapN q g := by
  refine ⟨?_, ?_⟩
  · unfold wrapN
    rcases h with h | h | h
    all_goals (rw [h]; rfl)
  · unfold wrapN compN
    congr 1
theorem newK_nil {p : Int → Bool} {gs : List (List Int × Bool)} (b : Nat) (h : Grp p [] gs) : newK b gs = [] := (grp_may 0 h (fun x hx => by cases hx) b).1
/-- a kid is a kid still, or in what was laid around it -/
theorem grp_find {p : Int → Bool} (q : Int) : ∀ {l : List Int} {gs : List (List Int × Bool)}, Grp p l gs → ∀ (b : Nat) (x : Int), x ∈ l →
    x ∈ newK b gs ∨ ∃ (t : Nat) (y : Nd), (newN q gs)[t]? = some y ∧ ((b + t : Nat) : Int) ∈ newK b gs ∧ x ∈ y.f1
  | _, _, .nil, b, x, hx => by cases hx
  | _, _, .cons (g := g) (b := true) (gs := gs) _ _ _ h, b, x, hx => by
    rcases List.mem_append.1 hx with hx | hx
    · exact .inl (List.mem_append_left _ hx)
    · rcases grp_find q h b x hx with h1 | ⟨t, y, h1, h2, h3⟩
      · exact .inl (List.mem_append_right _ h1)
      · exact .inr ⟨t, y, h1, List.mem_append_right _ h2, h3⟩
  | _, _, .cons (g := g) (b := false) (gs := gs) _ _ _ h, b, x, hx => by
    rcases List.mem_append.1 hx with hx | hx
    · exact .inr ⟨0, wrapN q g, rfl, List.mem_cons_self .., hx⟩
    · rcases grp_find q h (b + 1) x hx with h1 | ⟨t, y, h1, h2, h3⟩
      · exact .inl (List.mem_cons_of_mem _ h1)
      · refine .inr ⟨t + 1, y, h1, List.mem_cons_of_mem _ ?_, h3⟩
        rw [show b + (t + 1) = b + 1 + t by omega]; exact h2
theorem grp_new {p : Int → Bool} (q : Int) : ∀ {l : List Int} {gs : List (List Int × Bool)}, Grp p l gs → ∀ (b t : Nat), t < (newN q gs).length → ((b + t : Nat) : Int) ∈ newK b gs
  | _, _, .nil, b, t, ht => by simp [newN] at ht
  | _, _, .cons (g := g) (b := true) (gs := gs) _ _ _ h, b, t, ht => List.mem_append_right _ (grp_new q h b t ht)
  | _, _, .cons (g := g) (b := false) (gs := gs) _ _ _ h, b, 0, ht => List.mem_cons_self ..
  | _, _, .cons (g := g) (b := false) (gs := gs) _ _ _ h, b, t + 1, ht => by
    refine List.mem_cons_of_mem _ ?_
    rw [show b + (t + 1) = b + 1 + t by omega]
    exact grp_new q h (b + 1) t (by simpa [newN] using ht)
theorem kidsOf_step {xs : List Nd} {i : Nat} {n : Nd} (hn : xs[i]? = some n) : kidsOf (nodeStep xs i) (i : Int) = newK xs.length (grpsN xs n) := by
  have hi := (List.getElem?_eq_some_iff.1 hn).1
  refine kidsOf_nat (x := { n with f1 := newK xs.length (grpsN xs n) }) ?_
  rw [nodeStep_eq hn, List.getElem?_append_left (by rw [List.length_set]; exact hi), List.getElem?_set_self hi]
theorem kidsOf_else {xs : List Nd} {i j : Nat} {n : Nd} (hn : xs[i]? = some n) (hj : j < xs.length) (hne : j ≠ i) : kidsOf (nodeStep xs i) (j : Int) = kidsOf xs (j : Int) := by
  rw [kidsOf_nat (List.getElem?_eq_getElem hj)]
  refine kidsOf_nat ?_
  rw [nodeStep_eq hn, List.getElem?_append_left (by rw [List.length_set]; exact hj), List.getElem?_set_ne (fun e => hne e.symm)]
  exact List.getElem?_eq_getElem hj
theorem kidsOf_new {xs : List Nd} {i t : Nat} {n y : Nd} (hn : xs[i]? = some n) (hy : (newN n.f0 (grpsN xs n))[t]? = some y) : kidsOf (nodeStep xs i) ((xs.length + t : Nat) : Int) = y.f1 := by
  refine kidsOf_nat ?_
  rw [nodeStep_eq hn, List.getElem?_append_right (by rw [List.length_set]; omega), List.length_set, Nat.add_sub_cancel_left]
  exact hy
theorem PgOK.step {N : Nat} {xs : List Nd} {i : Nat} (hp : PgOK xs) (h : StOK N xs i) (hi : i < xs.length) : PgOK (nodeStep xs i) := by
  obtain ⟨n, hn⟩ : ∃ n, xs[i]? = some n := ⟨_, List.getElem?_eq_getElem hi⟩
  have hnm : n ∈ xs := List.mem_of_getElem? hn
  have hG := grpsN_grp xs n
  have hmem : ∀ y ∈ nodeStep xs i, y ∈ xs ∨ y = { n with f1 := newK xs.length (grpsN xs n) } ∨ y ∈ newN n.f0 (grpsN xs n) := fun y hy => by
    rw [nodeStep_eq hn, List.mem_append] at hy
    rcases hy with hy | hy
    · rcases List.mem_or_eq_of_mem_set hy with hy | hy
      · exact .inl hy
      · exact .inr (.inl hy)
    · exact .inr (.inr hy)
  have hnew : ∀ y ∈ newN n.f0 (grpsN xs n), rightN y = true ∧ compN y = y := fun y hy => by
    obtain ⟨g, rfl, hg, hx⟩ := grp_newN n.f0 hG y hy
    obtain ⟨x, hxg⟩ := List.exists_mem_of_ne_nil _ hg
    obtain ⟨hxl, hxm⟩ := hx x hxg
    have hk := h.kid n hnm x hxl
    have hkk := kind_at h.kind (show 0 ≤ x by omega) hk.2
    exact rightN_wrap (need_step (h.good n hnm (List.ne_nil_of_mem hxl)) hkk.1 hkk.2 hxm).2.2.2
  refine ⟨fun y hy => ?_, fun y hy => ?_, ?_⟩
  · rcases hmem y hy with hy | rfl | hy
    · exact hp.right y hy
    · refine rightN_kids (hp.right n hnm) (fun e => ?_)
      rw [e] at hG
      exact newK_nil _ hG
    · exact (hnew y hy).1
  · rcases hmem y hy with hy | rfl | hy
    · exact hp.sty y hy
    · have := hp.sty n hnm
      unfold compN at this ⊢
      have e2 : styS (styC (styN n.f2)) = n.f2 := congrArg S43.f2 this
      show S43.mk _ _ (styS (styC (styN n.f2))) _ _ _ = _
      rw [e2]
    · exact (hnew y hy).2
  · -- what is closed in the new page is closed in the old one
    have key : ∀ x : Int, Reach xs x → Reach (nodeStep xs i) x := fun x hx S h0 hS => by
      refine (hx (fun a => S a ∧ 0 ≤ a) ⟨h0, Int.le_refl 0⟩ (fun a k ha hk => ?_)).1
      obtain ⟨j, rfl⟩ := Int.eq_ofNat_of_zero_le ha.2
      by_cases q : j < xs.length
      · have hk0 : 0 ≤ k := by
          rw [kidsOf_nat (List.getElem?_eq_getElem q)] at hk
          have := h.kid _ (List.getElem_mem q) k hk
          omega
        refine ⟨?_, hk0⟩
        by_cases e : j = i
        · subst e
          rw [kidsOf_nat hn] at hk
          rcases grp_find n.f0 hG xs.length k hk with h1 | ⟨t, y, h1, h2, h3⟩
          · exact hS _ k ha.1 (by rw [kidsOf_step hn]; exact h1)
          · exact hS _ k (hS _ _ ha.1 (by rw [kidsOf_step hn]; exact h2)) (by rw [kidsOf_new hn h1]; exact h3)
        · exact hS _ k ha.1 (by rw [kidsOf_else hn q e]; exact hk)
      · rw [kidsOf_far (by omega)] at hk
        cases hk
    intro j hj
    rw [nodeStep_len hn] at hj
    by_cases q : j < xs.length
    · exact key _ (hp.reach j q)
    · have hri := key _ (hp.reach i hi)
      have ht : j - xs.length < (newN n.f0 (grpsN xs n)).length := by omega
      have := grp_new n.f0 hG xs.length (j - xs.length) ht
      rw [show xs.length + (j - xs.length) = j by omega] at this
      exact hri.kid (by rw [kidsOf_step hn]; exact this)
theorem go_pg {N : Nat} : ∀ (k i : Nat) (xs : List Nd), PgOK xs → StOK N xs i → PgOK (fixGo k i xs)
  | 0, i, xs, h, _ => h
  | k + 1, i, xs, h, hs => by
    unfold fixGo
    by_cases q : i < xs.length
    · rw [if_pos q]
      exact go_pg k (i + 1) _ (h.step hs q) (hs.step q)
    · rw [if_neg q]; exact h
theorem comp_right {n : Nd} (h : rightN n = true) : rightN (compN n) = true ∧ compN (compN n) = compN n := by
  have hv := (right_head h).2.2
  have ha := again_pure _ hv
  refine ⟨?_, ?_⟩
  · rw [show rightN n = (headB n && n.f3.all lengthB && lengthB n.f4 && lengthB n.f5 && (if n.f0 = 1 then decide (n.f1.length = 0) else if n.f0 = 5 then decide (n.f1.length = 0) && bareB n else bareB n)) from rfl] at h
    show ((decide (0 ≤ n.f0) && decide (n.f0 ≤ 10) && validB (styN (styS (styC (styN n.f2)))) && decide (n.f3.length ≤ 10000)) && n.f3.all lengthB && lengthB n.f4 && lengthB n.f5 && (if n.f0 = 1 then decide (n.f1.length = 0) else if n.f0 = 5 then decide (n.f1.length = 0) && bareB n else bareB n)) = true
    rw [styN_styS, ha.1]
    unfold headB at h
    rw [hv] at h
    exact h
  · unfold compN
    congr 1
    show styS (styC (styN (styS (styC (styN n.f2))))) = _
    rw [styN_styS, ha.2]
theorem comp_kidsOf (l : List Nd) (a : Int) : kidsOf (compP l) a = kidsOf l a := by
  unfold kidsOf rd_T43 compP
  rw [List.getD_eq_getElem?_getD, List.getD_eq_getElem?_getD, List.getElem?_map]
  cases l[a.toNat]? <;> rfl
theorem pg_init {l : List Nd} (h : PageOK l) : PgOK (compP l) := by
  have hmem : ∀ n ∈ compP l, ∃ m ∈ l, n = compN m := fun n hn => by
    unfold compP at hn
    obtain ⟨m, hm, rfl⟩ := List.mem_map.1 hn
    exact ⟨m, hm, rfl⟩
  refine ⟨fun n hn => ?_, fun n hn => ?_, fun i hi => ?_⟩
  · obtain ⟨m, hm, rfl⟩ := hmem n hn
    exact (comp_right (h.right m hm)).1
  · obtain ⟨m, hm, rfl⟩ := hmem n hn
    exact (comp_right (h.right m hm)).2
  · rw [compP_len] at hi
    have hr := (h.ord.reach (i : Int)).1 (h.met i hi)
    intro S h0 hS
    exact hr S h0 (fun a k ha hk => hS a k ha (by rw [comp_kidsOf]; exact hk))
theorem fix_pg {l : List Nd} (h : PageOK l) : PgOK (fixP l) := go_pg _ _ _ (pg_init h) (st_init h)
theorem fix_comp {l : List Nd} (h : PageOK l) : compP (fixP l) = fixP l := by
  have hp := fix_pg h
  unfold compP
  conv => rhs; rw [← List.map_id (fixP l)]
  apply List.map_congr_left
  intro n hn
  exact hp.sty n hn
/-- it may be too deep; nothing else is wrong -/
theorem fix_check {l : List Nd} (h : PageOK l) (hlen : (fixP l).length ≤ 65536) : (checkP (fixP l)).2 = 0 ∨ (checkP (fixP l)).2 = 42 := by
  have hp := fix_pg h
  have hs := fix_st h
  have hpos : 0 < (fixP l).length := by have := hs.sum; omega
  have hlinks : ∀ x ∈ linksOf (fixP l), badLink (fixP l).length x = false := fun x hx => by
    obtain ⟨y, hy, hk⟩ := mem_links.1 hx
    have := hs.kid y (List.mem_of_getElem? hy) x.2 hk
    unfold badLink
    rw [decide_eq_false (by omega), decide_eq_false (by omega)]
    rfl
  have hord := walk_ok (fixP l) (kidsIn_links hlinks) hpos
  have hcyc : ∀ i, i < (fixP l).length → cycB (fixP l) i = false := fun i hi => by
    unfold cycB
    by_cases q : 0 < i
    · have h1 : cntL (linksOf (fixP l)) (i : Int) = 1 := by
        rw [links_count, hs.cnt, if_pos ⟨by omega, by omega⟩]; rfl
      have h2 := (hord.reach (i : Int)).2 (hp.reach i hi)
      rw [decide_eq_false (p := cntL (linksOf (fixP l)) (i : Int) ≠ 1) (by rw [h1]; simp), decide_eq_false (p := (walkP (fixP l)).dep (i : Int) = 0) (by omega)]
      simp
    · rw [decide_eq_false q]; rfl
  have hfirst : ¬ 0 ≤ firstOf (fun n => !rightN n) (fixP l) := by
    intro h0
    have := firstOf_miss (fun n => !rightN n) (fixP l) (fun j n hn => by rw [hp.right n (List.mem_of_getElem? hn)]; rfl)
    omega
  unfold checkP
  rw [if_neg (by omega), if_neg hfirst, checkK_ok hlinks]
  unfold checkC
  rw [find_range_miss hcyc]
  unfold checkD
  dsimp only
  split
  · right; rfl
  · left; rfl
end Go.Proofs.Ytjhpkikgajgdmaa.K
