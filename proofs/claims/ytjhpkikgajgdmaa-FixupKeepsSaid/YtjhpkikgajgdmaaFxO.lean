/- Layer 5, plain: the order in which nodes are met. -/
import Derived.Test.YtjhpkikgajgdmaaFxN
import Derived.Test.YtjhpkikgajgdmaaTrZo
namespace Go.Proofs.Ytjhpkikgajgdmaa.K
open Go.RowKit Go.Proofs.YtjhpkikgajgdmaaW.PrintWords Go.Proofs.YtjhpkikgajgdmaaW.PrintLast Go.Proofs.YtjhpkikgajgdmaaW.PrintMore
set_option linter.unusedVariables false
set_option linter.unusedSimpArgs false

/-- some kids, each followed by what is below it -/
inductive PreL (xs : List Nd) : List Int → List Int → Prop
  | nil : PreL xs [] []
  | cons {x : Int} {ks A B : List Int} : PreL xs (kidsOf xs x) A → PreL xs ks B → PreL xs (x :: ks) (x :: A ++ B)
theorem pre_of_go (l : List Nd) (hk : KidsIn l) (ht : Tidy l) : ∀ (k : Nat) (a deep : Int) (s : WSt), 0 ≤ a → a < l.length → 1 ≤ deep → GoodW l.length s → unv l.length s < k → s.dep a = 0 → InvA l s →
    (a = 0 ∨ ∃ p, 0 ≤ p ∧ 0 < s.dep p ∧ a ∈ kidsOf l p) → ∃ B, PreL l [a] B ∧ (goP l k a deep s).ord = s.ord ++ B
  | 0, a, deep, s, _, _, _, _, h, _, _, _ => by omega
  | k + 1, a, deep, s, h0, h1, hd, hg, hu, hz, hA, hp => by
    have e : goP l (k + 1) a deep s = (kidsOf l a).foldl (fun t x => goP l k x (deep + 1) t) (markW s a deep) := by
      conv => lhs; unfold goP
      rw [if_neg (by omega)]
    rw [e]
    obtain ⟨g1, g2⟩ := good_mark hg h0 h1 hd (by omega)
    have hma : (markW s a deep).dep a = deep := updD_same _ _ _
    have hmo : ∀ x, x ≠ a → (markW s a deep).dep x = s.dep x := fun x hx => updD_ne _ _ _ hx
    have hself : a ∉ kidsOf l a := fun h => by
      rcases hp with rfl | ⟨p, hp0, hp1, hp2⟩
      · exact ht.root 0 (by omega) h
      · have := ht.one a p a h0 hp0 h hp2
        subst this; omega
    have hkun : ∀ y ∈ kidsOf l a, (markW s a deep).dep y = 0 := fun y hy => by
      have hya : y ≠ a := fun e => hself (e ▸ hy)
      rw [hmo y hya]
      have := hg.1 y
      by_cases q : s.dep y = 0
      · exact q
      · rcases hA y (by omega) with rfl | ⟨p, hp0, hp1, hp2⟩
        · exact absurd hy (ht.root a h0)
        · have := ht.one a p y h0 hp0 hy hp2
          subst this; omega
    have hA1 : InvA l (markW s a deep) := fun x hx => by
      by_cases q : x = a
      · subst q
        rcases hp with rfl | ⟨p, hp0, hp1, hp2⟩
        · exact .inl rfl
        · exact .inr ⟨p, hp0, by rw [hmo p (by rintro rfl; omega)]; exact hp1, hp2⟩
      · rw [hmo x q] at hx
        rcases hA x hx with rfl | ⟨p, hp0, hp1, hp2⟩
        · exact .inl rfl
        · exact .inr ⟨p, hp0, by rw [hmo p (by rintro rfl; omega)]; exact hp1, hp2⟩
    obtain ⟨n, rfl⟩ := Int.eq_ofNat_of_zero_le h0
    have hn : n < l.length := by omega
    obtain ⟨x, hx⟩ : ∃ x, l[n]? = some x := ⟨_, List.getElem?_eq_getElem hn⟩
    have hkx : kidsOf l (n : Int) = x.f1 := kidsOf_nat hx
    have key : ∀ (d j : Nat) (t : WSt), j + d = x.f1.length → GoodW l.length t → unv l.length t < k → InvA l t → 0 < t.dep (n : Int) → (∀ (i : Nat) (y : Int), j ≤ i → x.f1[i]? = some y → t.dep y = 0) →
        ∃ B, PreL l (x.f1.drop j) B ∧ ((x.f1.drop j).foldl (fun t x => goP l k x (deep + 1) t) t).ord = t.ord ++ B := by
      intro d
      induction d with
      | zero =>
        intro j t hj hgt hut hAt hat hun
        rw [List.drop_eq_nil_of_le (by omega), List.foldl_nil]
        exact ⟨[], PreL.nil, by rw [List.append_nil]⟩
      | succ d ih =>
        intro j t hj hgt hut hAt hat hun
        have hjl : j < x.f1.length := by omega
        obtain ⟨y, hy⟩ : ∃ y, x.f1[j]? = some y := ⟨_, List.getElem?_eq_getElem hjl⟩
        have hye : x.f1[j] = y := by have := (List.getElem?_eq_some_iff.1 hy).2; exact this
        have hyk : y ∈ kidsOf l (n : Int) := by rw [hkx]; exact List.mem_of_getElem? hy
        have hyr := kid_range hk hyk
        have hyu := hun j y (Nat.le_refl _) hy
        rw [List.drop_eq_getElem_cons hjl, List.foldl_cons, hye]
        have h1 := pre_of_go l hk ht k y (deep + 1) t hyr.1 hyr.2 (by omega) hgt hut hyu hAt (.inr ⟨(n : Int), by omega, hat, hyk⟩)
        obtain ⟨gg1, gg2⟩ := good_go l hk k y (deep + 1) t hyr.1 hyr.2 (by omega) hgt
        obtain ⟨ww, wy⟩ := go_went l hk k y (deep + 1) t hyr.1 hyr.2 (by omega) hgt hut
        obtain ⟨new, b1, b2, b3, b4⟩ := ww.ord
        generalize goP l k y (deep + 1) t = t' at h1 gg1 gg2 ww wy b1 b2 b4 ⊢
        have hpar : ∀ z, t.dep z = 0 → 0 < t'.dep z → z = y ∨ ∃ p, 0 ≤ p ∧ t.dep p = 0 ∧ 0 < t'.dep p ∧ z ∈ kidsOf l p := fun z hz0 hz1 => by
          obtain ⟨i, hi⟩ := List.getElem?_of_mem ((b2 z).2 ⟨hz0, hz1⟩)
          rcases b4 i z hi with ⟨rfl, -⟩ | ⟨q, p, -, hp, hkp, -⟩
          · exact .inl rfl
          · have hpm := (b2 p).1 (List.mem_of_getElem? hp)
            refine .inr ⟨p, ?_, hpm.1, hpm.2, hkp⟩
            rcases b4 q p hp with ⟨rfl, -⟩ | ⟨q', p', -, -, hkp', -⟩
            · exact hyr.1
            · exact (kid_range hk hkp').1
        have h2 := ih (j + 1) t' (by omega) gg1 (by omega) (fun z hz => ?_) (by rw [ww.mono _ hat]; exact hat) (fun i z hi hz => ?_)
        · obtain ⟨B1, p1, e1⟩ := h1
          obtain ⟨B2, p2, e2⟩ := h2
          cases p1 with
          | cons q1 q2 =>
            rename_i A0 B0
            cases q2
            refine ⟨y :: A0 ++ B2, PreL.cons q1 p2, ?_⟩
            rw [e2, e1]
            simp
        · have hz0 := hgt.1 z
          by_cases q : t.dep z = 0
          · rcases hpar z q hz with rfl | ⟨p, hp0, -, hp1, hp2⟩
            · exact .inr ⟨(n : Int), by omega, by rw [ww.mono _ hat]; exact hat, hyk⟩
            · exact .inr ⟨p, hp0, hp1, hp2⟩
          · rcases hAt z (by omega) with rfl | ⟨p, hp0, hp1, hp2⟩
            · exact .inl rfl
            · exact .inr ⟨p, hp0, by rw [ww.mono _ hp1]; exact hp1, hp2⟩
        · have hzu := hun i z (by omega) hz
          have hz0 := gg1.1 z
          by_cases q : t'.dep z = 0
          · exact q
          · exfalso
            have hzk : z ∈ kidsOf l (n : Int) := by rw [hkx]; exact List.mem_of_getElem? hz
            rcases hpar z hzu (by omega) with rfl | ⟨p, hp0, hpz, -, hp2⟩
            · have hnd := ht.nodup (n : Int) h0
              rw [hkx] at hnd
              have := (List.getElem?_inj (i := j) (j := i) hjl hnd).1 (hy.trans hz.symm)
              omega
            · have := ht.one (n : Int) p z h0 hp0 hzk hp2
              subst this; omega
    obtain ⟨B, hB, hE⟩ := key x.f1.length 0 (markW s (n : Int) deep) (by omega) g1 (by omega) hA1 (by omega) (fun i y _ hy => hkun y (by rw [hkx]; exact List.mem_of_getElem? hy))
    rw [List.drop_zero] at hB hE
    rw [hkx, hE]
    refine ⟨(n : Int) :: B ++ [], PreL.cons (by rw [hkx]; exact hB) PreL.nil, ?_⟩
    show (s.ord ++ [(n : Int)]) ++ B = _
    simp
theorem pre_walk {l : List Nd} (h : PageOK l) : ∃ B, PreL l [0] B ∧ (walkP l).ord = B := by
  obtain ⟨B, h1, h2⟩ := pre_of_go l h.kidsIn h.tidy (l.length + 1) 0 1 ⟨[], fun _ => 0⟩ (by omega) (by have := h.some; omega) (by omega) (good_init _).1 (by rw [(good_init _).2]; omega) rfl (fun x hx => absurd hx (by show ¬ (0 : Int) < 0; omega)) (.inl rfl)
  exact ⟨B, h1, by unfold walkP; rw [h2]; rfl⟩
theorem walk_len {l : List Nd} (h : PageOK l) : (walkP l).ord.length ≤ l.length := by
  have := (walk_good l h.kidsIn h.some).2
  omega
theorem PreL.append {xs : List Nd} : ∀ {a b A B : List Int}, PreL xs a A → PreL xs b B → PreL xs (a ++ b) (A ++ B)
  | _, _, _, _, .nil, h => h
  | _, _, _, _, .cons (x := x) (ks := ks) (A := A) (B := B) h1 h2, h => by
    have := PreL.cons h1 (PreL.append h2 h)
    rw [List.append_assoc]
    exact this
theorem PreL.split {xs : List Nd} : ∀ {a b C : List Int}, PreL xs (a ++ b) C → ∃ A B, PreL xs a A ∧ PreL xs b B ∧ C = A ++ B
  | [], b, C, h => ⟨[], C, .nil, h, rfl⟩
  | x :: a, b, _, .cons (A := A0) (B := B0) h1 h2 => by
    obtain ⟨A, B, g1, g2, e⟩ := PreL.split h2
    refine ⟨x :: A0 ++ A, B, PreL.cons h1 g1, g2, ?_⟩
    rw [e, List.append_assoc]
def oldF (n : Nat) (B : List Int) : List Int := B.filter (fun x => decide (x < (n : Int)))
theorem oldF_append (n : Nat) (A B : List Int) : oldF n (A ++ B) = oldF n A ++ oldF n B := List.filter_append ..
theorem oldF_new {n : Nat} {x : Int} (h : (n : Int) ≤ x) (B : List Int) : oldF n (x :: B) = oldF n B := by
  unfold oldF
  rw [List.filter_cons_of_neg (by simp; omega)]
theorem comp_pre {l : List Nd} : ∀ {ks B : List Int}, PreL l ks B → PreL (compP l) ks B
  | _, _, .nil => .nil
  | _, _, .cons h1 h2 => .cons (by rw [comp_kidsOf]; exact comp_pre h1) (comp_pre h2)
/-- the groups of a node's kids, one behind the other -/
theorem grp_pre {N : Nat} {xs ys : List Nd} {q : Int} {p : Int → Bool} (hn : ∀ (t : Nat) (y : Nd) (b : Nat), True) :
    ∀ {l : List Int} {gs : List (List Int × Bool)}, Grp p l gs → ∀ (b : Nat), N ≤ b → (∀ (t : Nat) (y : Nd), (newN q gs)[t]? = some y → kidsOf ys ((b + t : Nat) : Int) = y.f1) →
    ∀ B, PreL ys l B → ∃ B', PreL ys (newK b gs) B' ∧ oldF N B' = oldF N B
  | _, _, .nil, b, hb, hk, B, h => ⟨B, h, rfl⟩
  | _, _, .cons (g := g) (b := true) (gs := gs) _ _ _ hg, b, hb, hk, B, h => by
    obtain ⟨A, C, h1, h2, rfl⟩ := PreL.split h
    obtain ⟨C', h3, h4⟩ := grp_pre (N := N) (xs := xs) hn hg b hb hk C h2
    exact ⟨A ++ C', PreL.append h1 h3, by rw [oldF_append, oldF_append, h4]⟩
  | _, _, .cons (g := g) (b := false) (gs := gs) _ _ _ hg, b, hb, hk, B, h => by
    obtain ⟨A, C, h1, h2, rfl⟩ := PreL.split h
    obtain ⟨C', h3, h4⟩ := grp_pre (N := N) (xs := xs) hn hg (b + 1) (by omega) (fun t y ht => by
      rw [show b + 1 + t = b + (t + 1) by omega]
      exact hk (t + 1) y ht) C h2
    have e := hk 0 (wrapN q g) rfl
    rw [Nat.add_zero] at e
    refine ⟨((b : Nat) : Int) :: A ++ C', PreL.cons (by rw [e]; exact h1) h3, ?_⟩
    rw [List.cons_append, oldF_new (n := N) (x := ((b : Nat) : Int)) (by omega), oldF_append, oldF_append, h4]
theorem step_pre {N0 N : Nat} {xs : List Nd} {i : Nat} (h : StOK N0 xs i) (hi : i < xs.length) (hN : N ≤ xs.length) {ks B : List Int} (hp : PreL xs ks B) :
    (∀ k ∈ ks, 0 ≤ k ∧ k < (xs.length : Int)) → ∃ B', PreL (nodeStep xs i) ks B' ∧ oldF N B' = oldF N B := by
  induction hp with
  | nil => exact fun _ => ⟨[], .nil, rfl⟩
  | @cons x ks A B h1 h2 ih1 ih2 =>
    intro hr
    obtain ⟨n, hn⟩ : ∃ n, xs[i]? = some n := ⟨_, List.getElem?_eq_getElem hi⟩
    have hx := hr x (List.mem_cons_self ..)
    obtain ⟨j, rfl⟩ := Int.eq_ofNat_of_zero_le hx.1
    have hj : j < xs.length := by omega
    have hkx : ∀ k ∈ kidsOf xs (j : Int), 0 ≤ k ∧ k < (xs.length : Int) := fun k hk => by
      rw [kidsOf_nat (List.getElem?_eq_getElem hj)] at hk
      have := h.kid _ (List.getElem_mem hj) k hk
      omega
    obtain ⟨A', p1, e1⟩ := ih1 hkx
    obtain ⟨B', p2, e2⟩ := ih2 (fun k hk => hr k (List.mem_cons_of_mem _ hk))
    have fin : ∀ A'', PreL (nodeStep xs i) (kidsOf (nodeStep xs i) (j : Int)) A'' → oldF N A'' = oldF N A → ∃ B', PreL (nodeStep xs i) ((j : Int) :: ks) B' ∧ oldF N B' = oldF N ((j : Int) :: A ++ B) := fun A'' q1 q2 => by
      refine ⟨(j : Int) :: A'' ++ B', PreL.cons q1 p2, ?_⟩
      rw [← List.singleton_append, ← List.singleton_append (l := A), oldF_append, oldF_append, oldF_append, oldF_append, q2, e2]
    by_cases e : j = i
    · subst e
      rw [kidsOf_nat hn] at p1
      obtain ⟨A'', q1, q2⟩ := grp_pre (xs := xs) (q := n.f0) (N := N) (fun _ _ _ => trivial) (grpsN_grp xs n) xs.length hN (fun t y ht => kidsOf_new hn ht) A' p1
      exact fin A'' (by rw [kidsOf_step hn]; exact q1) (q2.trans e1)
    · exact fin A' (by rw [kidsOf_else hn hj e]; exact p1) e1
theorem go_pre {N0 N : Nat} : ∀ (k i : Nat) (xs : List Nd) (B : List Int), StOK N0 xs i → N ≤ xs.length → PreL xs [0] B → ∃ B', PreL (fixGo k i xs) [0] B' ∧ oldF N B' = oldF N B
  | 0, i, xs, B, _, _, hB => ⟨B, hB, rfl⟩
  | k + 1, i, xs, B, h, hN, hB => by
    unfold fixGo
    by_cases q : i < xs.length
    · rw [if_pos q]
      obtain ⟨B1, h1, e1⟩ := step_pre h q hN hB (fun k hk => by rw [List.mem_singleton.1 hk]; omega)
      have hle : N ≤ (nodeStep xs i).length := by rw [nodeStep_len (List.getElem?_eq_getElem q)]; omega
      obtain ⟨B2, h2, e2⟩ := go_pre k (i + 1) _ B1 (h.step q) hle h1
      exact ⟨B2, h2, e2.trans e1⟩
    · rw [if_neg q]; exact ⟨B, hB, rfl⟩
theorem fix_pre {l : List Nd} (h : PageOK l) : ∃ B, PreL (fixP l) [0] B ∧ oldF l.length B = (walkP l).ord := by
  obtain ⟨B, h1, h2⟩ := pre_walk h
  obtain ⟨B', h3, h4⟩ := go_pre (N := l.length) (4 * l.length) 0 (compP l) B (st_init h) (by rw [compP_len]; exact Nat.le_refl _) (comp_pre h1)
  refine ⟨B', h3, ?_⟩
  rw [h4, h2]
  unfold oldF
  rw [List.filter_eq_self]
  intro x hx
  rw [← h2] at hx
  have hd := (h.ord.mem x).1 hx
  have hr := (h.ord.reach x).1 hd
  have := hr (fun y => y < (l.length : Int)) (by show (0 : Int) < (l.length : Int); have := h.some; omega) (fun a k _ hk => (kid_range h.kidsIn hk).2)
  simpa using this
end Go.Proofs.Ytjhpkikgajgdmaa.K
