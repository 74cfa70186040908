/- Layer 4: what the walk meets; literals; slices.Clone; regions that draw their order. -/
import Derived.Test.YtjhpkikgajgdmaaTrA
import Derived.Lib.LazyBuf
import Derived.Test.YtjhpkikgajgdmaaHeld
namespace Go.Proofs.Ytjhpkikgajgdmaa.K
open Go.RowKit
set_option linter.unusedVariables false
set_option linter.unusedSimpArgs false

/-- a place is reached from the root -/
def Reach (l : List Nd) (x : Int) : Prop := ∀ S : Int → Prop, S 0 → (∀ a k, S a → k ∈ kidsOf l a → S k) → S x
theorem Reach.root (l : List Nd) : Reach l 0 := fun _ h _ => h
theorem Reach.kid {l : List Nd} {a k : Int} (h : Reach l a) (hk : k ∈ kidsOf l a) : Reach l k := fun S h0 hs => hs a k (h S h0 hs) hk

/-- what a walk has added: from one state to another -/
structure Went (l : List Nd) (R : Int → Prop) (d : Int) (s s' : WSt) : Prop where
  mono : ∀ x, 0 < s.dep x → s'.dep x = s.dep x
  closed : ∀ x, s.dep x = 0 → 0 < s'.dep x → ∀ y ∈ kidsOf l x, 0 < s'.dep y
  ord : ∃ new : List Int, s'.ord = s.ord ++ new ∧ (∀ x, x ∈ new ↔ s.dep x = 0 ∧ 0 < s'.dep x) ∧ new.Nodup ∧
    ∀ (i : Nat) (x : Int), new[i]? = some x → (R x ∧ s'.dep x = d) ∨ ∃ (j : Nat) (p : Int), j < i ∧ new[j]? = some p ∧ x ∈ kidsOf l p ∧ s'.dep x = s'.dep p + 1
theorem Went.refl (l : List Nd) (R : Int → Prop) (d : Int) (s : WSt) : Went l R d s s :=
  ⟨fun _ _ => rfl, fun x h0 h1 => by omega, [], by simp, fun x => by simp; intro h; omega, List.nodup_nil, fun i x h => by simp at h⟩
theorem Went.weaken {l : List Nd} {R R' : Int → Prop} {d : Int} {s s' : WSt} (h : Went l R d s s') (hr : ∀ x, R x → R' x) : Went l R' d s s' := by
  obtain ⟨new, h1, h2, h3, h4⟩ := h.ord
  refine ⟨h.mono, h.closed, new, h1, h2, h3, fun i x hx => ?_⟩
  rcases h4 i x hx with ⟨a, b⟩ | c
  · exact .inl ⟨hr x a, b⟩
  · exact .inr c
theorem Went.trans {l : List Nd} {R : Int → Prop} {d : Int} {s t u : WSt} (h1 : Went l R d s t) (h2 : Went l R d t u) (hs : ∀ x, 0 ≤ s.dep x) (ht : ∀ x, 0 ≤ t.dep x) : Went l R d s u := by
  obtain ⟨n1, a1, a2, a3, a4⟩ := h1.ord
  obtain ⟨n2, b1, b2, b3, b4⟩ := h2.ord
  have hmono : ∀ x, 0 < s.dep x → u.dep x = s.dep x := fun x hx => by
    have := h1.mono x hx
    rw [h2.mono x (by omega), this]
  have hup : ∀ x, 0 < t.dep x → u.dep x = t.dep x := h2.mono
  refine ⟨hmono, fun x h0 hu y hy => ?_, n1 ++ n2, ?_, fun x => ?_, ?_, fun i x hx => ?_⟩
  · by_cases q : t.dep x = 0
    · exact h2.closed x q hu y hy
    · have := h1.closed x h0 (by have := ht x; omega) y hy
      rw [hup y this]; exact this
  · rw [b1, a1, List.append_assoc]
  · rw [List.mem_append, a2, b2]
    constructor
    · rintro (⟨p, q⟩ | ⟨p, q⟩)
      · exact ⟨p, by rw [hup x q]; exact q⟩
      · refine ⟨?_, q⟩
        by_cases e : s.dep x = 0
        · exact e
        · have := h1.mono x (by have := hs x; omega); omega
    · rintro ⟨p, q⟩
      by_cases e : t.dep x = 0
      · exact .inr ⟨e, q⟩
      · exact .inl ⟨p, by have := ht x; omega⟩
  · rw [List.nodup_append]
    refine ⟨a3, b3, fun x hx y hy e => ?_⟩
    subst e
    have := (a2 x).1 hx; have := (b2 x).1 hy; omega
  · by_cases hi : i < n1.length
    · rw [List.getElem?_append_left hi] at hx
      have hxm := (a2 x).1 (List.mem_of_getElem? hx)
      rcases a4 i x hx with ⟨p, q⟩ | ⟨j, p, hj, hp, hk, hd⟩
      · exact .inl ⟨p, by rw [hup x hxm.2]; exact q⟩
      · have hpm := (a2 p).1 (List.mem_of_getElem? hp)
        refine .inr ⟨j, p, hj, ?_, hk, ?_⟩
        · rw [List.getElem?_append_left (by omega)]; exact hp
        · rw [hup x hxm.2, hup p hpm.2]; exact hd
    · rw [List.getElem?_append_right (by omega)] at hx
      rcases b4 _ x hx with q | ⟨j, p, hj, hp, hk, hd⟩
      · exact .inl q
      · refine .inr ⟨n1.length + j, p, by omega, ?_, hk, hd⟩
        rw [List.getElem?_append_right (by omega), Nat.add_sub_cancel_left]; exact hp

theorem go_went (l : List Nd) (hk : KidsIn l) : ∀ (k : Nat) (a deep : Int) (s : WSt), 0 ≤ a → a < l.length → 1 ≤ deep → GoodW l.length s → unv l.length s < k →
    Went l (fun x => x = a) deep s (goP l k a deep s) ∧ 0 < (goP l k a deep s).dep a
  | 0, a, deep, s, _, _, _, _, h => by omega
  | k + 1, a, deep, s, h0, h1, hd, hg, hu => by
    unfold goP
    by_cases q : s.dep a > 0
    · rw [if_pos q]; exact ⟨Went.refl _ _ _ _, q⟩
    · rw [if_neg q]
      obtain ⟨g1, g2⟩ := good_mark hg h0 h1 hd q
      have hkids := kidsIn_of hk h0 h1
      have key : ∀ (xs : List Int) (t : WSt), (∀ x ∈ xs, x ∈ kidsOf l a) → GoodW l.length t → unv l.length t < k →
          Went l (fun x => x ∈ kidsOf l a) (deep + 1) t (xs.foldl (fun t x => goP l k x (deep + 1) t) t) ∧ (∀ x ∈ xs, 0 < (xs.foldl (fun t x => goP l k x (deep + 1) t) t).dep x) ∧ GoodW l.length (xs.foldl (fun t x => goP l k x (deep + 1) t) t) := by
        intro xs
        induction xs with
        | nil => intro t _ ht _; exact ⟨Went.refl _ _ _ _, fun x hx => by simp at hx, ht⟩
        | cons x xs ih =>
          intro t hx ht hu
          rw [List.foldl_cons]
          have hxk := hx x (List.mem_cons_self ..)
          have hx0 := hkids x hxk
          obtain ⟨e1, e2⟩ := go_went l hk k x (deep + 1) t hx0.1 hx0.2 (by omega) ht hu
          obtain ⟨e3, e4⟩ := good_go l hk k x (deep + 1) t hx0.1 hx0.2 (by omega) ht
          obtain ⟨f1, f2, f3⟩ := ih _ (fun y hy => hx y (List.mem_cons_of_mem _ hy)) e3 (by omega)
          refine ⟨(e1.weaken (fun y hy => by rw [hy]; exact hxk)).trans f1 ht.1 e3.1, fun y hy => ?_, f3⟩
          rcases List.mem_cons.1 hy with rfl | hy
          · rw [f1.mono _ e2]; exact e2
          · exact f2 y hy
      obtain ⟨f1, f2, f3⟩ := key (kidsOf l a) (markW s a deep) (fun _ h => h) g1 (by omega)
      generalize (kidsOf l a).foldl (fun t x => goP l k x (deep + 1) t) (markW s a deep) = s' at f1 f2 f3
      have hz : s.dep a = 0 := by have := hg.1 a; omega
      have hma : (markW s a deep).dep a = deep := updD_same _ _ _
      have hmo : ∀ x, x ≠ a → (markW s a deep).dep x = s.dep x := fun x hx => updD_ne _ _ _ hx
      have hsa : s'.dep a = deep := by rw [f1.mono a (by omega), hma]
      obtain ⟨new, b1, b2, b3, b4⟩ := f1.ord
      refine ⟨⟨fun x hx => ?_, fun x hx0 hx1 y hy => ?_, a :: new, ?_, fun x => ?_, ?_, fun i x hx => ?_⟩, by omega⟩
      · have : x ≠ a := by rintro rfl; omega
        rw [f1.mono x (by rw [hmo x this]; exact hx), hmo x this]
      · by_cases e : x = a
        · subst e; exact f2 y hy
        · exact f1.closed x (by rw [hmo x e]; exact hx0) hx1 y hy
      · rw [b1]; show (s.ord ++ [a]) ++ new = _; rw [List.append_assoc]; rfl
      · rw [List.mem_cons, b2]
        by_cases e : x = a
        · subst e; constructor
          · intro _; exact ⟨hz, by omega⟩
          · intro _; exact .inl rfl
        · rw [hmo x e]; constructor
          · rintro (h | h)
            · exact absurd h e
            · exact h
          · exact .inr
      · rw [List.nodup_cons]
        refine ⟨fun h => ?_, b3⟩
        have := (b2 a).1 h; omega
      · match i, hx with
        | 0, hx =>
          have : a = x := by simpa using hx
          subst this
          exact .inl ⟨rfl, hsa⟩
        | i + 1, hx =>
          have hx' : new[i]? = some x := by simpa using hx
          rcases b4 i x hx' with ⟨p, q⟩ | ⟨j, p, hj, hp, hkk, hdd⟩
          · exact .inr ⟨0, a, by omega, rfl, p, by rw [q, hsa]⟩
          · exact .inr ⟨j + 1, p, by omega, by simpa using hp, hkk, hdd⟩

theorem walk_good (l : List Nd) (hk : KidsIn l) (hn : 0 < l.length) : GoodW l.length (walkP l) := (good_go l hk _ 0 1 _ (by omega) (by omega) (by omega) (good_init _).1).1
theorem walk_went (l : List Nd) (hk : KidsIn l) (hn : 0 < l.length) : Went l (fun x => x = 0) 1 ⟨[], fun _ => 0⟩ (walkP l) ∧ 0 < (walkP l).dep 0 :=
  go_went l hk (l.length + 1) 0 1 _ (by omega) (by omega) (by omega) (good_init _).1 (by rw [(good_init _).2]; omega)
/-- the walk's order: nothing twice; all that is reached; each behind a parent -/
structure OrdOK (l : List Nd) (w : WSt) : Prop where
  pos : ∀ x, 0 ≤ w.dep x
  mem : ∀ x, x ∈ w.ord ↔ 0 < w.dep x
  nodup : w.ord.Nodup
  back : ∀ (i : Nat) (x : Int), w.ord[i]? = some x → (x = 0 ∧ w.dep x = 1) ∨ ∃ (j : Nat) (p : Int), j < i ∧ w.ord[j]? = some p ∧ x ∈ kidsOf l p ∧ w.dep x = w.dep p + 1
  reach : ∀ x, 0 < w.dep x ↔ Reach l x
theorem walk_ok (l : List Nd) (hk : KidsIn l) (hn : 0 < l.length) : OrdOK l (walkP l) := by
  obtain ⟨h, h0⟩ := walk_went l hk hn
  obtain ⟨new, b1, b2, b3, b4⟩ := h.ord
  have hnew : (walkP l).ord = new := by rw [b1]; rfl
  have hmem : ∀ x, x ∈ (walkP l).ord ↔ 0 < (walkP l).dep x := fun x => by rw [hnew, b2]; exact ⟨fun h => h.2, fun h => ⟨rfl, h⟩⟩
  refine ⟨(walk_good l hk hn).1, hmem, by rw [hnew]; exact b3, fun i x hx => ?_, fun x => ⟨fun hx => ?_, fun hx => ?_⟩⟩
  · rw [hnew] at hx ⊢; exact b4 i x hx
  · have key : ∀ (m i : Nat) (y : Int), i < m → new[i]? = some y → Reach l y := by
      intro m
      induction m with
      | zero => intro i y hi; omega
      | succ m ih =>
        intro i y hi hy
        rcases b4 i y hy with ⟨rfl, -⟩ | ⟨j, p, hj, hp, hkk, -⟩
        · exact Reach.root l
        · exact (ih j p (by omega) hp).kid hkk
    obtain ⟨i, hi⟩ := List.getElem?_of_mem ((b2 x).2 ⟨rfl, hx⟩)
    exact key (i + 1) i x (by omega) hi
  · exact hx (fun y => 0 < (walkP l).dep y) h0 (fun a k ha hka => h.closed a rfl ha k hka)

/-- the links' own law: who has whom as a kid -/
theorem mem_links {l : List Nd} {r : Nat} {k : Int} : (r, k) ∈ linksOf l ↔ ∃ x, l[r]? = some x ∧ k ∈ x.f1 := by
  have key : ∀ (rows : List (List Int)) (q : Nat), (r, k) ∈ cellsFrom q rows ↔ ∃ row, q ≤ r ∧ rows[r - q]? = some row ∧ k ∈ row := by
    intro rows
    induction rows with
    | nil => intro q; simp [cellsFrom]
    | cons row rows ih =>
      intro q
      rw [cellsFrom, List.mem_append, ih, List.mem_map]
      constructor
      · rintro (⟨c, hc, e⟩ | ⟨row', h1, h2, h3⟩)
        · injection e with e1 e2; subst e1 e2
          exact ⟨row, Nat.le_refl _, by rw [Nat.sub_self]; rfl, hc⟩
        · exact ⟨row', by omega, by rw [show r - q = (r - (q + 1)) + 1 by omega]; simpa using h2, h3⟩
      · rintro ⟨row', h1, h2, h3⟩
        by_cases e : r = q
        · subst e
          rw [Nat.sub_self] at h2
          have : row = row' := by simpa using h2
          subst this
          exact .inl ⟨k, h3, rfl⟩
        · refine .inr ⟨row', by omega, ?_, h3⟩
          rw [show r - q = (r - (q + 1)) + 1 by omega] at h2
          simpa using h2
  unfold linksOf
  rw [key]
  constructor
  · rintro ⟨row, -, h2, h3⟩
    rw [Nat.sub_zero, List.getElem?_map] at h2
    obtain ⟨x, hx, rfl⟩ := Option.map_eq_some_iff.1 h2
    exact ⟨x, hx, h3⟩
  · rintro ⟨x, hx, hk⟩
    exact ⟨x.f1, by omega, by rw [Nat.sub_zero, List.getElem?_map, hx]; rfl, hk⟩
theorem kidsOf_nat {l : List Nd} {r : Nat} {x : Nd} (h : l[r]? = some x) : kidsOf l (r : Int) = x.f1 := by
  unfold kidsOf rd_T43; rw [Int.toNat_natCast, List.getD_eq_getElem?_getD, h]; rfl
theorem kidsOf_far {l : List Nd} {a : Int} (h : (l.length : Int) ≤ a) : kidsOf l a = [] := by
  unfold kidsOf rd_T43
  rw [List.getD_eq_getElem?_getD, List.getElem?_eq_none (by omega)]; rfl
/-- each place but the root is one node's kid, once -/
structure Tidy (l : List Nd) : Prop where
  one : ∀ a b k, 0 ≤ a → 0 ≤ b → k ∈ kidsOf l a → k ∈ kidsOf l b → a = b
  nodup : ∀ a, 0 ≤ a → (kidsOf l a).Nodup
  root : ∀ a, 0 ≤ a → 0 ∉ kidsOf l a
theorem count_cells (k : Int) : ∀ (rows : List (List Int)) (q : Nat), (cellsFrom q rows).countP (fun x => x.2 == k) = (rows.map (fun row => row.count k)).sum
  | [], q => by simp [cellsFrom]
  | row :: rows, q => by
    rw [cellsFrom, List.countP_append, List.countP_map, List.map_cons, List.sum_cons, count_cells k rows]
    rfl
theorem sum_one {f : List Int → Nat} : ∀ {rows : List (List Int)} {j : Nat} {b : List Int}, rows[j]? = some b → f b ≤ (rows.map f).sum
  | [], j, b, h => by simp at h
  | row :: rows, 0, b, h => by
    have e : row = b := by simpa using h
    subst e
    rw [List.map_cons, List.sum_cons]; omega
  | row :: rows, j + 1, b, h => by
    rw [List.map_cons, List.sum_cons]
    have := sum_one (f := f) (rows := rows) (j := j) (b := b) (by simpa using h)
    omega
theorem sum_two {f : List Int → Nat} : ∀ {rows : List (List Int)} {i j : Nat} {a b : List Int}, i < j → rows[i]? = some a → rows[j]? = some b → f a + f b ≤ (rows.map f).sum
  | [], i, j, a, b, _, h, _ => by simp at h
  | row :: rows, 0, j + 1, a, b, _, h, h2 => by
    have e : row = a := by simpa using h
    subst e
    have hb : rows[j]? = some b := by simpa using h2
    rw [List.map_cons, List.sum_cons]
    have := sum_one (f := f) hb
    omega
  | row :: rows, i + 1, j + 1, a, b, hij, h, h2 => by
    rw [List.map_cons, List.sum_cons]
    have := sum_two (f := f) (i := i) (j := j) (by omega) (by simpa using h) (by simpa using h2)
    omega
theorem tidy_of {l : List Nd} (hl : ∀ x ∈ linksOf l, badLink l.length x = false) (h1 : ∀ i : Nat, 0 < i → i < l.length → cntL (linksOf l) i = 1) : Tidy l := by
  have hkid : ∀ a k, 0 ≤ a → k ∈ kidsOf l a → ∃ r x, a = ((r : Nat) : Int) ∧ l[r]? = some x ∧ k ∈ x.f1 ∧ 1 ≤ k ∧ k < (l.length : Int) := by
    intro a k ha hk
    obtain ⟨r, rfl⟩ := Int.eq_ofNat_of_zero_le ha
    by_cases q : r < l.length
    · have hx : l[r]? = some l[r] := List.getElem?_eq_getElem q
      rw [kidsOf_nat hx] at hk
      have hb := hl (r, k) (mem_links.2 ⟨_, hx, hk⟩)
      unfold badLink at hb
      simp only [Bool.or_eq_false_iff, decide_eq_false_iff_not] at hb
      exact ⟨r, _, rfl, hx, hk, by omega, by omega⟩
    · rw [kidsOf_far (by omega)] at hk; simp at hk
  have hsum : ∀ k : Int, 1 ≤ k → k < (l.length : Int) → ((l.map (fun n => n.f1)).map (fun row => row.count k)).sum = 1 := by
    intro k hk0 hk1
    obtain ⟨m, rfl⟩ := Int.eq_ofNat_of_zero_le (show 0 ≤ k by omega)
    have := h1 m (by omega) (by omega)
    unfold cntL linksOf at this
    rw [count_cells] at this
    omega
  refine ⟨fun a b k ha hb hka hkb => ?_, fun a ha => ?_, fun a ha hk => ?_⟩
  · obtain ⟨r, x, rfl, hx, hkx, hk0, hk1⟩ := hkid a k ha hka
    obtain ⟨r', x', rfl, hx', hkx', -, -⟩ := hkid b k hb hkb
    have hs := hsum k hk0 hk1
    have c1 := List.count_pos_iff.2 hkx
    have c2 := List.count_pos_iff.2 hkx'
    have g1 : (l.map (fun n => n.f1))[r]? = some x.f1 := by rw [List.getElem?_map, hx]; rfl
    have g2 : (l.map (fun n => n.f1))[r']? = some x'.f1 := by rw [List.getElem?_map, hx']; rfl
    rcases Nat.lt_trichotomy r r' with q | q | q
    · have := sum_two (f := fun row => row.count k) q g1 g2; omega
    · rw [q]
    · have := sum_two (f := fun row => row.count k) q g2 g1; omega
  · obtain ⟨r, rfl⟩ := Int.eq_ofNat_of_zero_le ha
    rw [List.nodup_iff_count]
    intro k
    by_cases hk : k ∈ kidsOf l (r : Int)
    · obtain ⟨r', x, e, hx, hkx, hk0, hk1⟩ := hkid _ k ha hk
      have : r = r' := by omega
      subst this
      rw [kidsOf_nat hx]
      have hs := hsum k hk0 hk1
      have g1 : (l.map (fun n => n.f1))[r]? = some x.f1 := by rw [List.getElem?_map, hx]; rfl
      have := sum_one (f := fun row => row.count k) g1
      omega
    · rw [List.count_eq_zero.2 hk]; omega
  · obtain ⟨r, x, -, -, -, h, -⟩ := hkid a 0 ha hk
    omega

/-- a valid page -/
structure PageOK (l : List Nd) : Prop where
  some : 0 < l.length
  many : l.length ≤ 65536
  right : ∀ n ∈ l, rightN n = true
  links : ∀ x ∈ linksOf l, badLink l.length x = false
  times : ∀ i : Nat, 0 < i → i < l.length → cntL (linksOf l) i = 1
  met : ∀ i : Nat, i < l.length → 0 < (walkP l).dep i
  deep : ∀ i : Nat, i < l.length → (walkP l).dep i ≤ 64
theorem kidsIn_links {l : List Nd} (h : ∀ x ∈ linksOf l, badLink l.length x = false) : KidsIn l := fun n hn k hk => by have := kids_ok h n hn k hk; omega
theorem PageOK.kidsIn {l : List Nd} (h : PageOK l) : KidsIn l := kidsIn_links h.links
theorem PageOK.tidy {l : List Nd} (h : PageOK l) : Tidy l := tidy_of h.links h.times
theorem PageOK.ord {l : List Nd} (h : PageOK l) : OrdOK l (walkP l) := walk_ok l h.kidsIn h.some
theorem first_neg {α : Type} {p : α → Bool} {l : List α} (h : ¬ 0 ≤ firstOf p l) : ∀ x ∈ l, p x = false := by
  intro x hx
  rw [Bool.eq_false_iff]
  intro hp
  apply h
  obtain ⟨i, hi⟩ := List.getElem?_of_mem hx
  have hex : ∃ i, ∃ y, l[i]? = some y ∧ p y = true := ⟨i, x, hi, hp⟩
  have key : ∀ (m i : Nat) (y : α), i < m → l[i]? = some y → p y = true → 0 ≤ firstOf p l := by
    intro m
    induction m with
    | zero => intro i y hi; omega
    | succ m ih =>
      intro i y hi hy hpy
      by_cases q : ∃ j z, j < i ∧ l[j]? = some z ∧ p z = true
      · obtain ⟨j, z, hj, hz, hpz⟩ := q
        exact ih j z (by omega) hz hpz
      · rw [firstOf_hit p l i y hy hpy (fun j z hj hz => by
          rw [Bool.eq_false_iff]; intro hpz; exact q ⟨j, z, hj, hz, hpz⟩)]
        omega
  exact key (i + 1) i x (by omega) hi hp
theorem ok_iff (l : List Nd) : (checkP l).2 = 0 ↔ PageOK l := by
  constructor
  · intro h
    unfold checkP at h
    split at h
    · simp at h
    rename_i h0
    split at h
    · simp at h
    rename_i h1
    have hr := first_neg h1
    unfold checkK at h
    split at h
    · simp at h
    rename_i h2
    have hl : ∀ x ∈ linksOf l, badLink l.length x = false := fun x hx => by have := List.find?_eq_none.1 h2 x hx; simpa using this
    unfold checkC at h
    split at h
    · simp at h
    rename_i h3
    have hc : ∀ i, i < l.length → cycB l i = false := fun i hi => by have := List.find?_eq_none.1 h3 i (List.mem_range.2 hi); simpa using this
    unfold checkD at h
    split at h
    · simp at h
    rename_i h4
    have hd : ∀ i, i < l.length → deepB l i = false := fun i hi => by have := List.find?_eq_none.1 h4 i (List.mem_range.2 hi); simpa using this
    have hpos : 0 < l.length := by omega
    have hw := walk_ok l (kidsIn_links hl) hpos
    have hcc : ∀ i : Nat, 0 < i → i < l.length → cntL (linksOf l) i = 1 ∧ (walkP l).dep i ≠ 0 := fun i hi hi2 => by
      have := hc i hi2
      unfold cycB at this
      simp only [Bool.and_eq_false_iff, Bool.or_eq_false_iff, decide_eq_false_iff_not, Decidable.not_not] at this
      rcases this with h | h
      · exact absurd hi h
      · exact h
    refine ⟨hpos, by omega, fun n hn => by have := hr n hn; simpa using this, hl, fun i hi hi2 => (hcc i hi hi2).1, fun i hi => ?_, fun i hi => ?_⟩
    · by_cases e : i = 0
      · subst e; exact (hw.reach 0).2 (Reach.root l)
      · have := (hcc i (by omega) hi).2; have := hw.pos i; omega
    · have := hd i hi
      unfold deepB at this
      simp at this; omega
  · intro h
    have hw := h.ord
    unfold checkP
    rw [if_neg (by have := h.some; have := h.many; omega), firstOf_miss _ l (fun j z hz => by rw [h.right z (List.mem_of_getElem? hz)]; rfl), if_neg (by omega)]
    rw [checkK_ok h.links]
    unfold checkC
    rw [find_range_miss (fun j hj => by
      unfold cycB
      by_cases e : j = 0
      · subst e; rfl
      · rw [h.times j (by omega) hj]
        have := h.met j hj
        simp; intro; omega)]
    show (checkD l).2 = 0
    unfold checkD
    rw [find_range_miss (fun j hj => by unfold deepB; have := h.deep j hj; simp; omega)]
end Go.Proofs.Ytjhpkikgajgdmaa.K
namespace Go.Proofs.Ytjhpkikgajgdmaa.K
open Go.RowKit Go.Proofs.YtjhpkikgajgdmaaW.PrintWords Go.Proofs.YtjhpkikgajgdmaaW.PrintLast Go.Proofs.YtjhpkikgajgdmaaW.PrintMore
set_option linter.unusedVariables false
set_option linter.unusedSimpArgs false

theorem c_ints {W : World} {b t : Nat} {xs : List Int} {cells : Array Value} (hb : BlkIs W b t cells) (he : cells.toList = xs.map (fun x => Value.int .i64 x)) (hl : xs.length ≤ 1000000) : Kd.C (Kd.int .i64) W (some ⟨b, 0, none⟩) xs.length xs := by
  refine ⟨rfl, by omega, fun _ => ⟨_, rfl, fun j p hj => ⟨[.int .i64 p], rfl, rfl, fun i u hu => ?_⟩⟩⟩
  have hi : i = 0 := by rcases i with _ | i; rfl; simp at hu
  subst hi
  rw [add_at, show 0 + (j * (Kd.int .i64).sz + 0) = j by rw [show (Kd.int .i64).sz = 1 from rfl]; omega]
  cases hu
  rw [BlkIs.cell hb j, ← Array.getElem?_toList, he, List.getElem?_map, hj]; rfl
theorem c_nil (w : World) : Kd.C (Kd.int .i64) w none 0 [] := ⟨rfl, by omega, fun h => absurd h (Nat.lt_irrefl _)⟩
theorem flat_get : ∀ (css : List (List Value)) (i j : Nat) (c : List Value) (u : Value), (∀ c ∈ css, c.length = 34) → css[i]? = some c → c[j]? = some u → css.flatten[i * 34 + j]? = some u
  | [], i, j, c, u, _, h, _ => by simp at h
  | d :: css, 0, j, c, u, h34, h, hu => by
    have e : d = c := by simpa using h
    subst e
    have hj := (List.getElem?_eq_some_iff.1 hu).1
    rw [List.flatten_cons, Nat.zero_mul, Nat.zero_add, List.getElem?_append_left hj]; exact hu
  | d :: css, i + 1, j, c, u, h34, h, hu => by
    have hd : d.length = 34 := h34 d (List.mem_cons_self ..)
    rw [List.flatten_cons, List.getElem?_append_right (by omega), show (i + 1) * 34 + j - d.length = i * 34 + j by omega]
    exact flat_get css i j c u (fun c hc => h34 c (List.mem_cons_of_mem _ hc)) (by simpa using h) hu
theorem c_nodes {W : World} {b t : Nat} {cells : Array Value} (hb : BlkIs W b t cells) (xs : List Nd) (css : List (List Value)) (hcells : cells.toList = css.flatten) (hl : css.length = xs.length) (hs : xs.length ≤ 1000000)
    (hK : ∀ (i : Nat) (x : Nd) (c : List Value), xs[i]? = some x → css[i]? = some c → k43.K W x c) : Kd.C k43 W (some ⟨b, 0, none⟩) xs.length xs := by
  have h34 : ∀ c ∈ css, c.length = 34 := fun c hc => by
    obtain ⟨i, hi⟩ := List.getElem?_of_mem hc
    have hlt := (List.getElem?_eq_some_iff.1 hi).1
    exact k43.K_len (hK i _ c (List.getElem?_eq_getElem (by omega)) hi)
  refine ⟨rfl, by omega, fun _ => ⟨_, rfl, fun j p hj => ?_⟩⟩
  have hlt := (List.getElem?_eq_some_iff.1 hj).1
  obtain ⟨c, hc⟩ : ∃ c, css[j]? = some c := ⟨_, List.getElem?_eq_getElem (by omega)⟩
  refine ⟨c, h34 c (List.mem_of_getElem? hc), hK j p c hj hc, fun i u hu => ?_⟩
  rw [add_at, Nat.zero_add, BlkIs.cell hb, ← Array.getElem?_toList, hcells]
  exact flat_get css j i c u h34 hc hu
def sty0 : S40 := ⟨⟨0, 0⟩, ⟨0, 0⟩, ⟨0, 0, 0, 0⟩, ⟨⟨0, 0, 0⟩, ⟨0, 0, 0⟩, ⟨0, 0, 0⟩, ⟨0, 0, 0⟩⟩, 0, 0, 0, false, false, ⟨0, 0⟩, false, false⟩
def nd0 (kind : Int) (kids : List Int) : Nd := ⟨kind, kids, sty0, [], 0, 0⟩
def nv0 (kind : Int) (kids : Value) : List Value := [.int .i64 kind, kids, .int .i64 0, .int .i64 0, .int .i64 0, .int .i64 0, .int .i64 0, .int .i64 0, .int .i64 0, .int .i64 0, .int .i64 0, .int .i64 0, .int .u32 0, .int .i64 0, .int .i64 0, .int .u32 0, .int .i64 0, .int .i64 0, .int .u32 0, .int .i64 0, .int .i64 0, .int .u32 0, .int .i64 0, .int .i64 0, .int .i64 0, .bool false, .bool false, .int .i64 0, .int .i64 0, .bool false, .bool false, .slice none 0 0, .int .i64 0, .int .i64 0]
theorem nv0_K {W : World} {kind : Int} {kids : List Int} {A : Option Addr} {c : Nat} (hl : kids.length ≤ c) (h : Kd.C (Kd.int .i64) W A kids.length kids) : k43.K W (nd0 kind kids) (nv0 kind (.slice A kids.length c)) :=
  k43_mk W (nd0 kind kids) (A1 := A) (c1 := c) hl h (A31 := none) (c31 := 0) (Nat.le_refl _) (c_nil W)
theorem nv0_K0 (W : World) (kind : Int) : k43.K W (nd0 kind []) (nv0 kind (.slice none 0 0)) := nv0_K (Nat.le_refl _) (c_nil W)
end Go.Proofs.Ytjhpkikgajgdmaa.K
namespace Go.Proofs.Ytjhpkikgajgdmaa.K
open Go.RowKit
set_option linter.unusedVariables false
set_option linter.unusedSimpArgs false
section
variable {F : Fence} {n : Nat} {P : Program} {ops : Array Oper} {Q : Exit → Act → World → Prop} {md : Region.Mode} {S : World → Prop}
theorem takeD {i : Nat} {d : Tmp} {oi : Oper} {v : Value} {fuel : Nat} {listed : Array Bool} {a : Act} {w : World} (hi : ops[i]? = some oi) (hdst : oi.dst = some d) (hd : noDefer ops = true)
    (hs : Region.noSelect ops = true) (hf : Region.free md ops listed i = true) (hr : (Region.ready md ops listed).contains i = true)
    (hQ : ∀ c a w, Q (.panic c) (a.put oi.dst v) w → Q (.panic c) a w) (hy : YieldsH P ops S oi v a) (hS : S w)
    (h : wpAnyInH F n P md ops Q S fuel (listed.setIfInBounds i true) { tmps := a.tmps.setIfInBounds d v, defers := a.defers } w) : wpAnyInH F n P md ops Q S (fuel + 1) listed a w :=
  takeH hi hd hs hf hr hQ hy hS (by unfold Act.put; rw [hdst]; exact h)
theorem yieldsIf_load_any {op : Oper} {a : Act} (hw : Region.wanted op (yielded ops a.tmps) = true) (ty : TypeId) (x : Operand) (ho : op.op = .load ty x)
    (ad : Addr) (hx : a.eval x = .pointer (some ad)) (cs : List Value) (d : TypeDesc) (hS : ∀ w, S w → ∀ j v, cs[j]? = some v → w.cell? (ad.add j) = some v)
    (hu : P.underlying ty = some d) (hd : d.isRow = true) (hi : (P.info? ty).map (·.size) = some cs.length) : YieldsIf P ops S op (.agg cs.toArray) a :=
  .inl ⟨hw, fun w hw' => by
    unfold execOp
    simp only [ho, hx, Instr.loadAt, Instr.sureAddr, Sem.run_bind, Sem.run_pure, Result.andThen_ok, run_loadVar_any w ad ty cs d (hS w hw') hu hd hi]⟩
end
end Go.Proofs.Ytjhpkikgajgdmaa.K
namespace Go.Proofs.Ytjhpkikgajgdmaa
open Go
set_option linter.unusedVariables false
set_option linter.unusedSimpArgs false
section
variable {F : Fence} {n : Nat} {P : Program} {ops : Array Oper} {Q : Exit → Act → World → Prop} {md : Region.Mode} {S : World → Prop} {k0 : Nat}

/-- whatever order is picked from here on, and S holds behind every operation that is carried out, until number k0 is listed -/
def wpAnyInU (F : Fence) (n : Nat) (P : Program) (md : Region.Mode) (ops : Array Oper) (Q : Exit → Act → World → Prop) (S : World → Prop) (k0 : Nat) : Nat → Array Bool → Act → World → Prop
  | 0, listed, a, w => Region.ready md ops listed = [] ∧ Q .normal a w
  | fuel + 1, listed, a, w =>
    (Region.ready md ops listed = [] → Q .normal a w) ∧
    ∀ i ∈ Region.ready md ops listed, wpOpIn F n P ops Q i (fun a' w' => ((listed.setIfInBounds i true).getD k0 true = false → S w') ∧ wpAnyInU F n P md ops Q S k0 fuel (listed.setIfInBounds i true) a' w') a w

theorem wpAnyIn_of_until : ∀ (fuel : Nat) (listed : Array Bool) (a : Act) (w : World), wpAnyInU F n P md ops Q S k0 fuel listed a w → wpAnyIn F n P md ops Q fuel listed a w
  | 0, _, _, _, h => h
  | fuel + 1, _, _, _, h => ⟨h.1, fun i hi => wpOpIn_mono (fun a' w' h' => wpAnyIn_of_until fuel _ a' w' h'.2) (h.2 i hi)⟩

/-- number k0 waits for number i -/
def waitsB (md : Region.Mode) (ops : Array Oper) (k0 i : Nat) : Bool := match ops[k0]? with
  | some o => o.after.any fun e => Region.binds md e && e.on == i
  | none => false
theorem waits_not_ready {i : Nat} {listed : Array Bool} (h : waitsB md ops k0 i = true) (hu : listed.getD i true = false) : k0 ∉ Region.ready md ops listed := by
  intro hk
  obtain ⟨-, o, ho, hall⟩ := mem_ready.1 hk
  unfold waitsB at h
  rw [ho] at h
  obtain ⟨e, he, hb⟩ := Array.any_eq_true'.1 h
  simp only [Bool.and_eq_true, beq_iff_eq] at hb
  have h1 := hall e he hb.1
  rw [hb.2] at h1
  rcases Nat.lt_or_ge i listed.size with h' | h'
  · simp [h'] at hu h1; rw [hu] at h1; cases h1
  · simp [Array.getElem?_eq_none h'] at h1

theorem wpAnyInU_first {i : Nat} {oi : Oper} {v : Value} (hd : noDefer ops = true) (hi : ops[i]? = some oi) (hsel : ∀ (j : Nat) (o : Oper) cs b, ops[j]? = some o → o.op ≠ .select cs b)
    (hQ : ∀ c a w, Q (.panic c) (a.put oi.dst v) w → Q (.panic c) a w) (hw : waitsB md ops k0 i = true) (hik : i ≠ k0) :
    ∀ (fuel : Nat) (listed : Array Bool) (a : Act) (w : World),
      (∀ j oj, ops[j]? = some oj → j ≠ i → listed.getD j true = false → (∀ e ∈ oj.after, Region.binds md e = true → e.on ≠ i) → oi.apart ops oj = true) →
      i ∈ Region.ready md ops listed → YieldsH P ops S oi v a → S w → listed.getD k0 true = false →
      wpAnyInU F n P md ops Q S k0 fuel (listed.setIfInBounds i true) (a.put oi.dst v) w → wpAnyInU F n P md ops Q S k0 (fuel + 1) listed a w := by
  intro fuel
  induction fuel with
  | zero =>
    intro listed a w _ hr hy hS hk H
    refine ⟨fun h => (by rw [h] at hr; cases hr), fun j hj => ?_⟩
    by_cases hji : j = i
    · subst hji; exact hy.wpOpIn hd hi hS ⟨fun _ => hS, H⟩
    · have := ready_mono hj hji
      rw [H.1] at this
      cases this
  | succ fuel ih =>
    intro listed a w hfree hr hy hS hk H
    refine ⟨fun h => (by rw [h] at hr; cases hr), fun j hj => ?_⟩
    by_cases hji : j = i
    · subst hji; exact hy.wpOpIn hd hi hS ⟨fun _ => hS, H⟩
    · have h1 := H.2 j (ready_mono hj hji)
      obtain ⟨hjun, oj, hoj, hall⟩ := mem_ready.1 hj
      have hiun : listed.getD i true = false := (mem_ready.1 hr).1
      have hjk : j ≠ k0 := fun e => waits_not_ready hw hiun (e ▸ hj)
      have hnot : ∀ e ∈ oj.after, Region.binds md e = true → e.on ≠ i := fun e he hb heq => by
        have h1 := hall e he hb
        have h0 := (mem_ready.1 hr).1
        rw [heq] at h1
        rcases Nat.lt_or_ge i listed.size with h' | h'
        · simp [h'] at h0 h1; rw [h0] at h1; cases h1
        · simp [Array.getElem?_eq_none h'] at h1
      have h2 := wpOpIn_putH hd hoj (hfree j oj hoj hji hjun hnot) (fun cs b => hsel i oi cs b hi) (fun cs b => hsel j oj cs b hoj) hQ hy h1
      have hfree' : ∀ k ok, ops[k]? = some ok → k ≠ i → (listed.setIfInBounds j true).getD k true = false →
          (∀ e ∈ ok.after, Region.binds md e = true → e.on ≠ i) → oi.apart ops ok = true := fun k ok hk hki hun hno => by
        refine hfree k ok hk hki ?_ hno
        by_cases hjk : j = k
        · subst hjk; exact hjun
        · rw [getD_set_ne true hjk] at hun; exact hun
      have hk1 : (listed.setIfInBounds j true).getD k0 true = false := by rw [getD_set_ne true hjk]; exact hk
      have hk2 : ((listed.setIfInBounds i true).setIfInBounds j true).getD k0 true = false := by rw [getD_set_ne true hjk, getD_set_ne true hik]; exact hk
      refine wpOpIn_mono (fun a' w' h3 => ⟨fun _ => h3.2.1 hk2, ih (listed.setIfInBounds j true) a' w' hfree' (ready_mono hr (Ne.symm hji)) h3.1 (h3.2.1 hk2) hk1 ?_⟩) h2
      rw [Array.setIfInBounds_comm _ _ hji]
      exact h3.2.2

theorem wpAnyInU_pure {i : Nat} {oi : Oper} {v : Value} (hd : noDefer ops = true) (hi : ops[i]? = some oi) (hsel : ∀ (j : Nat) (o : Oper) cs b, ops[j]? = some o → o.op ≠ .select cs b)
    (hQ : ∀ c a w, Q (.panic c) (a.put oi.dst v) w → Q (.panic c) a w) (hik : i ≠ k0) :
    ∀ (fuel : Nat) (listed : Array Bool) (a : Act) (w : World),
      (∀ j oj, ops[j]? = some oj → j ≠ i → listed.getD j true = false → (∀ e ∈ oj.after, Region.binds md e = true → e.on ≠ i) → oi.apart ops oj = true) →
      i ∈ Region.ready md ops listed → YieldsH P ops (fun _ => True) oi v a → (listed.getD k0 true = false → S w) →
      wpAnyInU F n P md ops Q S k0 fuel (listed.setIfInBounds i true) (a.put oi.dst v) w → wpAnyInU F n P md ops Q S k0 (fuel + 1) listed a w := by
  intro fuel
  induction fuel with
  | zero =>
    intro listed a w _ hr hy hS H
    refine ⟨fun h => (by rw [h] at hr; cases hr), fun j hj => ?_⟩
    by_cases hji : j = i
    · subst hji; exact hy.wpOpIn hd hi trivial ⟨fun h => hS (by rwa [getD_set_ne true hik] at h), H⟩
    · have := ready_mono hj hji
      rw [H.1] at this
      cases this
  | succ fuel ih =>
    intro listed a w hfree hr hy hS H
    refine ⟨fun h => (by rw [h] at hr; cases hr), fun j hj => ?_⟩
    by_cases hji : j = i
    · subst hji; exact hy.wpOpIn hd hi trivial ⟨fun h => hS (by rwa [getD_set_ne true hik] at h), H⟩
    · have h1 := H.2 j (ready_mono hj hji)
      obtain ⟨hjun, oj, hoj, hall⟩ := mem_ready.1 hj
      have hnot : ∀ e ∈ oj.after, Region.binds md e = true → e.on ≠ i := fun e he hb heq => by
        have h1 := hall e he hb
        have h0 := (mem_ready.1 hr).1
        rw [heq] at h1
        rcases Nat.lt_or_ge i listed.size with h' | h'
        · simp [h'] at h0 h1; rw [h0] at h1; cases h1
        · simp [Array.getElem?_eq_none h'] at h1
      have h2 := wpOpIn_putH hd hoj (hfree j oj hoj hji hjun hnot) (fun cs b => hsel i oi cs b hi) (fun cs b => hsel j oj cs b hoj) hQ hy h1
      have hfree' : ∀ k ok, ops[k]? = some ok → k ≠ i → (listed.setIfInBounds j true).getD k true = false →
          (∀ e ∈ ok.after, Region.binds md e = true → e.on ≠ i) → oi.apart ops ok = true := fun k ok hk hki hun hno => by
        refine hfree k ok hk hki ?_ hno
        by_cases hjk : j = k
        · subst hjk; exact hjun
        · rw [getD_set_ne true hjk] at hun; exact hun
      have hsame : ((listed.setIfInBounds i true).setIfInBounds j true).getD k0 true = (listed.setIfInBounds j true).getD k0 true := by rw [Array.setIfInBounds_comm _ _ (Ne.symm hji), getD_set_ne true hik]
      refine wpOpIn_mono (fun a' w' h3 => ⟨fun h => h3.2.1 (by rw [hsame]; exact h), ih (listed.setIfInBounds j true) a' w' hfree' (ready_mono hr (Ne.symm hji)) h3.1 (fun h => h3.2.1 (by rw [hsame]; exact h)) ?_⟩) h2
      rw [Array.setIfInBounds_comm _ _ hji]
      exact h3.2.2
/-- take number i first: it hangs on no cell -/
theorem takeP {i : Nat} {d : Tmp} {oi : Oper} {v : Value} {fuel : Nat} {listed : Array Bool} {a : Act} {w : World} (hi : ops[i]? = some oi) (hdst : oi.dst = some d) (hd : noDefer ops = true)
    (hs : Region.noSelect ops = true) (hf : Region.free md ops listed i = true) (hr : (Region.ready md ops listed).contains i = true) (hw : (!(i == k0)) = true)
    (hQ : ∀ c a w, Q (.panic c) (a.put oi.dst v) w → Q (.panic c) a w) (hy : YieldsH P ops (fun _ => True) oi v a) (hS : listed.getD k0 true = false → S w)
    (h : wpAnyInU F n P md ops Q S k0 fuel (listed.setIfInBounds i true) { tmps := a.tmps.setIfInBounds d v, defers := a.defers } w) : wpAnyInU F n P md ops Q S k0 (fuel + 1) listed a w := by
  simp only [Bool.not_eq_true', beq_eq_false_iff_ne] at hw
  exact wpAnyInU_pure hd hi (Region.noSelect_spec hs) hQ hw fuel listed a w (Region.free_spec hi hf) (by simpa using hr) hy hS (by unfold Act.put; rw [hdst]; exact h)

/-- take number i first -/
theorem takeU {i : Nat} {d : Tmp} {oi : Oper} {v : Value} {fuel : Nat} {listed : Array Bool} {a : Act} {w : World} (hi : ops[i]? = some oi) (hdst : oi.dst = some d) (hd : noDefer ops = true)
    (hs : Region.noSelect ops = true) (hf : Region.free md ops listed i = true) (hr : (Region.ready md ops listed).contains i = true) (hw : (waitsB md ops k0 i && !(i == k0)) = true) (hk : listed.getD k0 true = false)
    (hQ : ∀ c a w, Q (.panic c) (a.put oi.dst v) w → Q (.panic c) a w) (hy : YieldsH P ops S oi v a) (hS : S w)
    (h : wpAnyInU F n P md ops Q S k0 fuel (listed.setIfInBounds i true) { tmps := a.tmps.setIfInBounds d v, defers := a.defers } w) : wpAnyInU F n P md ops Q S k0 (fuel + 1) listed a w := by
  simp only [Bool.and_eq_true, Bool.not_eq_true', beq_eq_false_iff_ne] at hw
  exact wpAnyInU_first hd hi (Region.noSelect_spec hs) hQ hw.1 hw.2 fuel listed a w (Region.free_spec hi hf) (by simpa using hr) hy hS hk (by unfold Act.put; rw [hdst]; exact h)

theorem no_more {b : Bool} {p : Prop} (h : b = true) : b = false → p := fun h2 => by rw [h] at h2; cases h2
/-- one alone may come up -/
theorem oneU {i : Nat} {o : Oper} {fuel : Nat} {listed : Array Bool} {a : Act} {w : World} (ho : ops[i]? = some o) (hr : Region.ready md ops listed = [i])
    (h : ∀ K' : Act → World → Prop, (∀ a w, ((listed.setIfInBounds i true).getD k0 true = false → S w) ∧ wpAnyInU F n P md ops Q S k0 fuel (listed.setIfInBounds i true) a w → K' a w) → if Region.wanted o (yielded ops a.tmps) = true then Oper.wpIn F n P o a w K' Q else (∀ f, o.about P w a.eval = some f → F.fn f) ∧ K' (a.put o.dst undef) w) :
    wpAnyInU F n P md ops Q S k0 (fuel + 1) listed a w :=
  ⟨fun h0 => (by rw [h0] at hr; cases hr), fun j hj => by
    rw [hr] at hj
    obtain rfl := List.mem_singleton.1 hj
    exact wpOpIn_step ho h⟩
theorem doneU {listed : Array Bool} {a : Act} {w : World} (hr : Region.ready md ops listed = []) (h : Q .normal a w) :
    ∀ fuel, wpAnyInU F n P md ops Q S k0 fuel listed a w
  | 0 => ⟨hr, h⟩
  | _ + 1 => ⟨fun _ => h, by rw [hr]; simp⟩
/-- the beginning -/
theorem beginU {id : Nat} {a : Act} {w : World} (S : World → Prop) (k0 : Nat) (hm : P.follows .mixedOrders = true)
    (h : wpAnyInU F n P .any ops Q S k0 ops.size (Array.replicate ops.size false) a w.drew) : (Code.region id ops true).wpIn F n P Q a w :=
  wpIn_region_any hm (wpAnyIn_of_until _ _ _ _ h)
end
end Go.Proofs.Ytjhpkikgajgdmaa
