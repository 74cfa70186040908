/- Layer 5: the reference's Fix: kid by kid; in memory. -/
import Derived.Test.YtjhpkikgajgdmaaFxF
import Derived.Test.YtjhpkikgajgdmaaTrTs
namespace Go.Proofs.Ytjhpkikgajgdmaa.K
open Go.RowKit Go.Proofs.YtjhpkikgajgdmaaW.PrintWords Go.Proofs.YtjhpkikgajgdmaaW.PrintLast Go.Proofs.YtjhpkikgajgdmaaW.PrintMore
set_option linter.unusedVariables false
set_option linter.unusedSimpArgs false

/-! plain: kid by kid it is the same -/
def refStep (n : Nd) (s : List Int × List Nd × Option Nat) (k : Int) : List Int × List Nd × Option Nat :=
  if mayB n.f0 (kindAt s.2.1 k) = true then (s.1 ++ [k], s.2.1, none)
  else match s.2.2 with
    | some o => (s.1, s.2.1.set o { s.2.1.getD o z43 with f1 := (s.2.1.getD o z43).f1 ++ [k] }, some o)
    | none => (s.1 ++ [(s.2.1.length : Int)], s.2.1 ++ [wrapN n.f0 [k]], some s.2.1.length)
theorem kindAt_app {xs B : List Nd} {k : Int} (h0 : 0 ≤ k) (h1 : k < xs.length) : kindAt (xs ++ B) k = kindAt xs k := by
  unfold kindAt rd_T43
  rw [List.getD_eq_getElem?_getD, List.getD_eq_getElem?_getD, List.getElem?_append_left (by omega)]
section
variable {xs : List Nd} {n : Nd}
theorem ref_true : ∀ (g : List Int) (ks : List Int) (B : List Nd) (o : Option Nat), (∀ x ∈ g, (0 ≤ x ∧ x < (xs.length : Int)) ∧ mayB n.f0 (kindAt xs x) = true) → g.foldl (refStep n) (ks, xs ++ B, o) = (ks ++ g, xs ++ B, if g = [] then o else none)
  | [], ks, B, o, _ => by simp
  | x :: g, ks, B, o, h => by
    have hx := h x (List.mem_cons_self ..)
    have e : refStep n (ks, xs ++ B, o) x = (ks ++ [x], xs ++ B, none) := by
      unfold refStep
      rw [kindAt_app hx.1.1 hx.1.2, if_pos hx.2]
    rw [List.foldl_cons, e, ref_true g (ks ++ [x]) B none (fun y hy => h y (List.mem_cons_of_mem _ hy))]
    simp
theorem ref_false : ∀ (g h : List Int) (ks : List Int) (B : List Nd), (∀ x ∈ g, (0 ≤ x ∧ x < (xs.length : Int)) ∧ mayB n.f0 (kindAt xs x) = false) →
    g.foldl (refStep n) (ks, xs ++ (B ++ [wrapN n.f0 h]), some (xs.length + B.length)) = (ks, xs ++ (B ++ [wrapN n.f0 (h ++ g)]), some (xs.length + B.length))
  | [], h, ks, B, _ => by simp
  | x :: g, h, ks, B, hp => by
    have hx := hp x (List.mem_cons_self ..)
    have e : refStep n (ks, xs ++ (B ++ [wrapN n.f0 h]), some (xs.length + B.length)) x = (ks, xs ++ (B ++ [wrapN n.f0 (h ++ [x])]), some (xs.length + B.length)) := by
      unfold refStep
      rw [kindAt_app hx.1.1 hx.1.2, if_neg (by rw [hx.2]; decide)]
      dsimp only
      have hg : (xs ++ (B ++ [wrapN n.f0 h])).getD (xs.length + B.length) z43 = wrapN n.f0 h := by
        rw [List.getD_eq_getElem?_getD, List.getElem?_append_right (by omega), Nat.add_sub_cancel_left, List.getElem?_append_right (by omega), Nat.sub_self]; rfl
      rw [hg, List.set_append_right _ _ (by omega), Nat.add_sub_cancel_left, List.set_append_right _ _ (by omega), Nat.sub_self]
      rfl
    rw [List.foldl_cons, e, ref_false g (h ++ [x]) ks B (fun y hy => hp y (List.mem_cons_of_mem _ hy)), List.append_assoc]
    rfl
theorem ref_grp : ∀ {l : List Int} {gs : List (List Int × Bool)}, Grp (fun k => mayB n.f0 (kindAt xs k)) l gs → (∀ x ∈ l, 0 ≤ x ∧ x < (xs.length : Int)) → ∀ (ks : List Int) (B : List Nd) (o : Option Nat),
    (∀ f, l.head? = some f → mayB n.f0 (kindAt xs f) = false → o = none) → ∃ o', l.foldl (refStep n) (ks, xs ++ B, o) = (ks ++ newK (xs.length + B.length) gs, xs ++ (B ++ newN n.f0 gs), o')
  | _, _, .nil, _, ks, B, o, _ => ⟨o, by simp [newK, newN]⟩
  | _, _, .cons (g := g) (rest := rest) (b := true) (gs := gs) h0 h1 h2 h, hr, ks, B, o, ho => by
    rw [List.foldl_append, ref_true g ks B o (fun x hx => ⟨hr x (List.mem_append_left _ hx), h1 x hx⟩), if_neg h0]
    obtain ⟨o', e⟩ := ref_grp h (fun x hx => hr x (List.mem_append_right _ hx)) (ks ++ g) B none (fun _ _ _ => rfl)
    refine ⟨o', ?_⟩
    rw [e, List.append_assoc]
    rfl
  | _, _, .cons (g := g) (rest := rest) (b := false) (gs := gs) h0 h1 h2 h, hr, ks, B, o, ho => by
    cases g with
    | nil => exact absurd rfl h0
    | cons x g' =>
      have hx := h1 x (List.mem_cons_self ..)
      have hxr := hr x (List.mem_append_left _ (List.mem_cons_self ..))
      obtain rfl := ho x rfl hx
      have e : refStep n (ks, xs ++ B, none) x = (ks ++ [((xs.length + B.length : Nat) : Int)], xs ++ (B ++ [wrapN n.f0 [x]]), some (xs.length + B.length)) := by
        unfold refStep
        rw [kindAt_app hxr.1 hxr.2, if_neg (by rw [hx]; decide)]
        dsimp only
        rw [List.length_append, List.append_assoc]
      rw [List.cons_append, List.foldl_cons, e, List.foldl_append, ref_false g' [x] _ B (fun y hy => ⟨hr y (List.mem_append_left _ (List.mem_cons_of_mem _ hy)), h1 y (List.mem_cons_of_mem _ hy)⟩)]
      obtain ⟨o', e'⟩ := ref_grp h (fun y hy => hr y (List.mem_append_right _ hy)) (ks ++ [((xs.length + B.length : Nat) : Int)]) (B ++ [wrapN n.f0 ([x] ++ g')]) (some (xs.length + B.length)) (fun f hf hff => absurd hff (h2 f hf))
      refine ⟨o', ?_⟩
      rw [e']
      show (_, _, o') = (ks ++ (((xs.length + B.length : Nat) : Int) :: newK (xs.length + B.length + 1) gs), xs ++ (B ++ (wrapN n.f0 (x :: g') :: newN n.f0 gs)), o')
      rw [List.length_append]
      simp [Nat.add_assoc]
end
theorem ref_node {xs : List Nd} {i : Nat} {n : Nd} (hn : xs[i]? = some n) (hr : ∀ x ∈ n.f1, 0 ≤ x ∧ x < (xs.length : Int)) :
    (n.f1.foldl (refStep n) ([], xs, none)).2.1.set i { n with f1 := (n.f1.foldl (refStep n) ([], xs, none)).1 } = nodeStep xs i := by
  obtain ⟨o', e⟩ := ref_grp (grpsN_grp xs n) hr [] [] none (fun _ _ _ => rfl)
  rw [List.append_nil, List.nil_append, List.nil_append, List.length_nil, Nat.add_zero] at e
  rw [e, nodeStep_eq hn]
  dsimp only
  rw [List.set_append_left _ _ (List.getElem?_eq_some_iff.1 hn).1]
/-- what has come about is bounded -/
theorem ref_le {n : Nd} : ∀ (l : List Int) (s : List Int × List Nd × Option Nat), (l.foldl (refStep n) s).1.length ≤ s.1.length + l.length ∧ (l.foldl (refStep n) s).2.1.length ≤ s.2.1.length + l.length ∧ s.2.1.length ≤ (l.foldl (refStep n) s).2.1.length
  | [], s => by simp
  | x :: l, s => by
    have ih := ref_le (n := n) l (refStep n s x)
    rw [List.foldl_cons, List.length_cons]
    have h1 : (refStep n s x).1.length ≤ s.1.length + 1 ∧ (refStep n s x).2.1.length ≤ s.2.1.length + 1 ∧ s.2.1.length ≤ (refStep n s x).2.1.length := by
      unfold refStep
      split
      · simp
      · split
        · simp
        · simp
    omega
end Go.Proofs.Ytjhpkikgajgdmaa.K
namespace Go.Proofs.Ytjhpkikgajgdmaa.K
open Go.RowKit Go.Proofs.YtjhpkikgajgdmaaW.PrintWords Go.Proofs.YtjhpkikgajgdmaaW.PrintLast Go.Proofs.YtjhpkikgajgdmaaW.PrintMore
set_option linter.unusedVariables false
set_option linter.unusedSimpArgs false

/-! in memory -/
/-- the nodes while one of them (op) grows -/
structure NdsI (w W : World) (ok : Nat → Prop) (O cap : Nat) (xs : List Nd) (rows : List (List Value)) (op : Option Nat) : Prop where
  own : Kd.R (Kd.raw 34) 43 W w.heap.size (fun k => k = O) (.slice (some ⟨O, 0, none⟩) xs.length cap) rows
  len : rows.length = xs.length
  elem : ∀ (j : Nat) (x : Nd) (c : List Value), op ≠ some j → xs[j]? = some x → rows[j]? = some c → Kd.FK k43 W ok x c
section
variable {w W V : World} {ok ok' : Nat → Prop} {O cap : Nat} {xs : List Nd} {rows : List (List Value)} {op : Option Nat}
theorem NdsI.blk (h : NdsI w W ok O cap xs rows op) : ∃ cells, W.heap[O]? = some (.cells cells 43 (0, 0)) := by
  obtain ⟨inner, ho⟩ := Kd.R_own h.own
  exact own_typed ho O (by simp [Value.ownBlock])
theorem NdsI.lt (h : NdsI w W ok O cap xs rows op) : O < W.heap.size := by
  obtain ⟨cells, hc⟩ := h.blk
  exact (Array.getElem?_eq_some_iff.1 hc).1
theorem NdsI.base (h : NdsI w W ok O cap xs rows op) : w.heap.size ≤ O := Kd.R_base h.own O (by simp [Value.ownBlock])
theorem NdsI.step (h : NdsI w W ok O cap xs rows op) (h0 : V.heap[O]? = W.heap[O]?) (hm : ∀ k, ok k → k < W.heap.size → V.heap[k]? = W.heap[k]?) (hk : ∀ k, ok k → k < W.heap.size → ok' k) : NdsI w V ok' O cap xs rows op :=
  ⟨Kd.R_step h.own (fun k hk _ => by rw [hk]; exact h0), h.len, fun j x c hj hx hc => Kd.FK_mono (Kd.FK_step (Kd.FK_bound (h.elem j x c hj hx hc)) (fun k hk _ => hm k hk.1 hk.2)) (fun k hk' => hk k hk'.1 hk'.2)⟩
/-- node j's cells -/
theorem NdsI.cells (h : NdsI w W ok O cap xs rows op) {j : Nat} (hj : j < xs.length) : ∃ c, rows[j]? = some c ∧ c.length = 34 ∧ (∀ u ∈ c, u.oneCell' = true) ∧ (∀ q u, c[q]? = some u → W.cell? ⟨O, j * 34 + q, none⟩ = some u) ∧ ∀ q, W.frozen? ⟨O, j * 34 + q, none⟩ = false := by
  obtain ⟨c, h1, h2, h3, h4⟩ := Kd.R_elem h.own ([] : List Value) ((j : Nat) : Int) (by omega) (by omega)
  rw [Int.toNat_natCast] at h2 h3 h4
  have hj' : j < rows.length := by rw [h.len]; exact hj
  have hr : rows[j]? = some rows[j] := List.getElem?_eq_getElem hj'
  rw [List.getD_eq_getElem?_getD, hr] at h2
  obtain rfl : c = rows[j] := h2.1
  exact ⟨_, hr, h1, h2.2.2, h3, h4⟩
/-- cell q of node j is written -/
theorem NdsI.put (h : NdsI w W ok O cap xs rows op) {j : Nat} {x' : Nd} {c : List Value} (hj : j < xs.length) (hc : rows[j]? = some c) (q : Nat) (u : Value) (hq : q < 34) (h1 : u.oneCell' = true)
    (hok : ∀ k, ok k → k ≠ O) (hM : op ≠ some j → Kd.FK k43 W ok x' (c.take q ++ [u] ++ c.drop (q + 1))) : NdsI w (W.setCell ⟨O, j * 34 + q, none⟩ u) ok O cap (xs.set j x') (rows.set j (c.take q ++ [u] ++ c.drop (q + 1))) op := by
  obtain ⟨c0, hc0, hl, ho, hcell, hfr⟩ := h.cells hj
  rw [hc] at hc0
  cases hc0
  have h34 : (c.take q ++ [u] ++ c.drop (q + 1)).length = 34 := by simp; omega
  obtain ⟨s1, s2⟩ := Kd.R_seg h.own ((j : Nat) : Int) (by omega) (by omega) (c := c) (seg := [u]) (j := q) hl (by rw [Int.toNat_natCast]; exact hcell) (by show q + 1 ≤ 34; omega) (x' := c.take q ++ [u] ++ c.drop (q + 1)) (okp := fun _ => False)
    ⟨rfl, h34, fun v hv => by
      rcases List.mem_append.1 hv with hv | hv
      · rcases List.mem_append.1 hv with hv | hv
        · exact ho v (List.mem_of_mem_take hv)
        · rw [List.mem_singleton.1 hv]; exact h1
      · exact ho v (List.mem_of_mem_drop hv)⟩ (fun _ hk => hk.elim)
  rw [Int.toNat_natCast] at s1 s2
  refine ⟨by rw [List.length_set]; exact s1, by rw [List.length_set, List.length_set]; exact h.len, fun i y d hi hy hd => ?_⟩
  by_cases e : i = j
  · subst e
    rw [List.getElem?_set_self hj] at hy
    rw [List.getElem?_set_self (by rw [h.len]; exact hj)] at hd
    cases hy; cases hd
    exact Kd.FK_step (hM hi) (fun k hk hlt => s2.block k hlt (fun e => hok k hk (by injection e)))
  · rw [List.getElem?_set_ne (fun h => e h.symm)] at hy hd
    exact Kd.FK_step (h.elem i y d hi hy hd) (fun k hk hlt => s2.block k hlt (fun e => hok k hk (by injection e)))
end

/-- what may be read: what came in, or is new -/
def LdR (w : World) (P0 : Nat → Prop) (k : Nat) : Prop := P0 k ∧ k < w.heap.size ∨ w.heap.size ≤ k
def LdS (w : World) (P0 : Nat → Prop) (O S : Nat) (vk vo : Value) (k : Nat) : Prop := LdR w P0 k ∧ k ≠ O ∧ k ≠ S ∧ some k ≠ vk.ownBlock ∧ some k ≠ vo.ownBlock
/-- while a node's kids are gone through: ks are its kids so far, op is what is open, vo its row -/
structure RefI (w : World) (P0 : Nat → Prop) (S : Nat) (Ak : Option Addr) (n : Nd) (cs : List Value) (W : World) (O cap : Nat) (ks : List Int) (xs : List Nd) (op : Option Nat) (vk vo : Value) (rows : List (List Value)) : Prop where
  nds : NdsI w W (LdS w P0 O S vk vo) O cap xs rows op
  cur : ∀ o, op = some o → ∃ (x : Nd) (c : List Value), xs[o]? = some x ∧ rows[o]? = some c ∧ c[1]? = some vo ∧ Kd.FK k43 W (LdS w P0 O S vk vo) { x with f1 := [] } (c.take 1 ++ [.slice none 0 0] ++ c.drop (1 + 1)) ∧ Kd.R (Kd.int .i64) 3 W S (fun k => k ≠ S) vo x.f1
  nocur : op = none → vo = .slice none 0 0
  kd : Kd.R (Kd.int .i64) 3 W S (fun k => k ≠ S ∧ some k ≠ vo.ownBlock) vk ks
  blk : BlkIs W S 43 cs.toArray
  fk : Kd.F (Kd.int .i64) W (LdS w P0 O S vk vo) Ak n.f1.length n.f1
  b : Below w.heap.size w W
  hS : w.heap.size ≤ S ∧ O ≠ S
section
variable {w W V : World} {P0 : Nat → Prop} {S O cap : Nat} {Ak : Option Addr} {n : Nd} {cs : List Value} {xs : List Nd} {ks : List Int} {op : Option Nat} {vk vo : Value} {rows : List (List Value)}
theorem int_not_nodes {e base : Nat} {ok : Nat → Prop} {v : Value} {l : List Int} (h : Kd.R (Kd.int .i64) 3 W base ok v l) (hO : ∃ cells, W.heap[O]? = some (.cells cells 43 (0, 0))) : some O ≠ v.ownBlock := by
  obtain ⟨cells, hc⟩ := hO
  exact Kd.R_ne h hc (by decide)
theorem RefI.below (h : RefI w P0 S Ak n cs W O cap ks xs op vk vo rows) (hb : Below W.heap.size W V) : RefI w P0 S Ak n cs V O cap ks xs op vk vo rows :=
  ⟨h.nds.step (hb.block O h.nds.lt) (fun k _ hlt => hb.block k hlt) (fun _ hk _ => hk), fun o ho => by
    obtain ⟨x, c, h1, h2, h3, h4, h5⟩ := h.cur o ho
    exact ⟨x, c, h1, h2, h3, Kd.FK_below h4 hb, Kd.R_below h5 hb⟩, h.nocur, Kd.R_below h.kd hb, (hb.block S (BlkIs.lt h.blk)).trans h.blk, Kd.F_below h.fk hb, below_then h.b h.b.size hb, h.hS⟩
/-- the kids grow -/
theorem RefI.growK (h : RefI w P0 S Ak n cs W O cap ks xs op vk vo rows) (x : Int) (hl : ks.length ≤ 100000000) (ty : TypeId) :
    ∃ vk1 W1, (Builtin.append_ #[30, 30] ty #[vk, .slice (some ⟨W.heap.size, 0, none⟩) 1 1]).run Try.prog (W.alloc (.cells #[.int .i64 x] 3)) = .ok vk1 W1 ∧ RefI w P0 S Ak n cs W1 O cap (ks ++ [x]) xs op vk1 vo rows := by
  have h5 := h.below (below_alloc (Below.refl _ W) (.cells #[.int .i64 x] 3))
  have hSW := BlkIs.lt h.blk
  obtain ⟨i0, hi, hzz⟩ := Option.map_eq_some_iff.1 info3
  simp only [Prod.mk.injEq] at hzz
  obtain ⟨hz0, hz1, hz2⟩ := hzz
  obtain ⟨h0, inner, hown, hr⟩ := h5.kd
  obtain ⟨vk1, W1, hrun, hown1, hg, -, hat⟩ := run_append_own_at (P := Try.prog) (W.alloc (.cells #[.int .i64 x] 3)) S 30 ty 3 i0 _ 1 8 Try.underlying30 hi hz0 hz1 hz2 rfl (by decide) vk ks.length inner hown ⟨W.heap.size, 0, none⟩ 1 1 [.int .i64 x] rfl
    (by simpa using World.news_of_block (cs := #[.int .i64 x]) (t := 3) (fr := (0, 0)) (heap_alloc_new W (.cells #[.int .i64 x] 3))) (by intro u hu; rw [List.mem_singleton.1 hu]; rfl) (by simp only [maxLen]; omega) (by omega) (by simp; omega)
  have hat' : vk1.ownBlock = vk.ownBlock ∨ ∃ b, vk1.ownBlock = some b ∧ (W.alloc (.cells #[.int .i64 x] 3)).heap.size ≤ b := by
    rcases hat with hat | hat
    · exact .inl hat
    · exact .inr ⟨_, hat, Nat.le_refl _⟩
  have hvo : ∀ k, vo.ownBlock = some k → k < (W.alloc (.cells #[.int .i64 x] 3)).heap.size := fun k hk => by
    cases op with
    | none => rw [h.nocur rfl] at hk; simp [Value.ownBlock] at hk
    | some o =>
      obtain ⟨_, _, _, _, _, _, h6⟩ := h5.cur o rfl
      exact Kd.R_lt h6 k hk
  have hR : Kd.R (Kd.int .i64) 3 W1 S (fun k => k ≠ S ∧ some k ≠ vo.ownBlock) vk1 (ks ++ [x]) :=
    Kd.R_appended (d := Kd.int .i64) (okp := fun _ => False) h0 hr (p := x) (cs := [.int .i64 x]) rfl (fun _ hk => hk.elim) (fun k hk => ⟨by simp at hk; omega, fun e => by have := hvo k e.symm; omega⟩) hown1 hg hat'
  have hne : ∀ k, some k ≠ vk.ownBlock → k < (W.alloc (.cells #[.int .i64 x] 3)).heap.size → some k ≠ vk1.ownBlock := fun k hk hlt => by
    rcases hat' with e | ⟨b, e, hle⟩
    · rw [e]; exact hk
    · rw [e]; intro e2; injection e2 with e2; omega
  have hO := int_not_nodes (e := 0) h5.kd h5.nds.blk
  have hL : ∀ k, LdS w P0 O S vk vo k → k < (W.alloc (.cells #[.int .i64 x] 3)).heap.size → LdS w P0 O S vk1 vo k := fun k hk hlt => ⟨hk.1, hk.2.1, hk.2.2.1, hne k hk.2.2.2.1 hlt, hk.2.2.2.2⟩
  have hM : ∀ k, LdS w P0 O S vk vo k → k < (W.alloc (.cells #[.int .i64 x] 3)).heap.size → W1.heap[k]? = (W.alloc (.cells #[.int .i64 x] 3)).heap[k]? := fun k hk hlt => hg.block k hlt hk.2.2.2.1
  refine ⟨vk1, W1, hrun, h5.nds.step (hg.block O h5.nds.lt hO) hM hL, fun o ho => ?_, h.nocur, hR, ?_, Kd.F_mono (Kd.F_step (Kd.F_bound h5.fk) (fun k hk _ => hM k hk.1 hk.2)) (fun k hk => hL k hk.1 hk.2), ?_, h.hS⟩
  · obtain ⟨y, c, g1, g2, g3, g4, g5⟩ := h5.cur o ho
    refine ⟨y, c, g1, g2, g3, Kd.FK_mono (Kd.FK_step (Kd.FK_bound g4) (fun k hk _ => hM k hk.1 hk.2)) (fun k hk => hL k hk.1 hk.2), Kd.R_mono (Kd.R_step (Kd.R_tight rfl g5) (fun k hk hlt => hg.block k hlt (fun e => (h5.kd.1 k e.symm).2 hk))) (fun k hk => g5.1 k hk.symm)⟩
  · exact h5.blk.grown hg (fun e => (h5.kd.1 S e.symm).1 rfl)
  · exact pw_below_grown h5.b _ h5.b.size hg (fun k e => by have := Kd.R_base h5.kd k e; have := h.hS.1; omega)
/-- what is open is closed -/
theorem RefI.close (h : RefI w P0 S Ak n cs W O cap ks xs op vk vo rows) : RefI w P0 S Ak n cs W O cap ks xs none vk (.slice none 0 0) rows := by
  have hL : ∀ k, LdS w P0 O S vk vo k → LdS w P0 O S vk (.slice none 0 0) k := fun k hk => ⟨hk.1, hk.2.1, hk.2.2.1, hk.2.2.2.1, by simp [Value.ownBlock]⟩
  refine ⟨⟨h.nds.own, h.nds.len, fun j x c _ hx hc => ?_⟩, fun o ho => (by cases ho), fun _ => rfl, Kd.R_mono h.kd (fun k hk => ⟨hk.1, by simp [Value.ownBlock]⟩), h.blk, Kd.F_mono h.fk hL, h.b, h.hS⟩
  by_cases e : op = some j
  · obtain ⟨x', c', g1, g2, g3, g4, g5⟩ := h.cur j e
    rw [hx] at g1
    rw [hc] at g2
    cases g1; cases g2
    obtain ⟨A, cp, rfl⟩ := Kd.R_slice g5
    have hF : Kd.F (Kd.int .i64) W (LdS w P0 O S vk (.slice none 0 0)) A x.f1.length x.f1 := Kd.F_mono (Kd.R_F (Kd.R_bound (Kd.R_tight rfl g5))) (fun k hk => by
      have h1 := g5.1 k hk.1.symm
      have hb := hk.2.1
      refine ⟨.inr (by have := h.hS.1; omega), ?_, h1, fun e2 => (h.kd.1 k e2.symm).2 hk.1, by simp [Value.ownBlock]⟩
      intro e3
      exact int_not_nodes (e := 0) g5 h.nds.blk (by rw [← e3]; exact hk.1))
    have := fk_kids (Kd.FK_mono g4 hL) (cp := cp) (Kd.R_reads' g5).2.1 hF
    have hcl : c.length = 34 := by
      obtain ⟨d, hd, hl, -⟩ := h.nds.cells (List.getElem?_eq_some_iff.1 hx).1
      rw [hc] at hd; cases hd; exact hl
    have e2 : (c.take 1 ++ [Value.slice none 0 0] ++ c.drop (1 + 1)).take 1 ++ [Value.slice A x.f1.length cp] ++ (c.take 1 ++ [Value.slice none 0 0] ++ c.drop (1 + 1)).drop (1 + 1) = c := by
      cases c with
      | nil => simp at hcl
      | cons c0 c =>
        cases c with
        | nil => simp at hcl
        | cons c1 rest =>
          have : c1 = .slice A x.f1.length cp := by simpa using g3
          simp [this]
    rw [e2] at this
    exact this
  · exact Kd.FK_mono (h.nds.elem j x c e hx hc) hL
/-- a node without kids is appended, and open -/
theorem RefI.growN (h : RefI w P0 S Ak n cs W O cap ks xs none vk (.slice none 0 0) rows) {y : Nd} {c : List Value} (hF : ∀ ok, Kd.FK k43 W ok { y with f1 := [] } (c.take 1 ++ [.slice none 0 0] ++ c.drop (1 + 1))) (hy : y.f1 = []) (hc34 : c.length = 34) (hone : ∀ u ∈ c, u.oneCell' = true) (hc1 : c[1]? = some (.slice none 0 0)) (hxl : xs.length ≤ 1000000) (ty : TypeId) :
    ∃ O1 cap1 W6, (Builtin.append_ #[25, 25] ty #[.slice (some ⟨O, 0, none⟩) xs.length cap, .slice (some ⟨W.heap.size, 0, none⟩) 1 1]).run Try.prog (W.alloc (.cells c.toArray 43)) = .ok (.slice (some ⟨O1, 0, none⟩) (xs.length + 1) cap1) W6 ∧
      RefI w P0 S Ak n cs W6 O1 cap1 ks (xs ++ [y]) (some xs.length) vk (.slice none 0 0) (rows ++ [c]) := by
  have h5 := h.below (below_alloc (Below.refl _ W) (.cells c.toArray 43))
  have hSW := BlkIs.lt h.blk
  obtain ⟨i0, hi, hzz⟩ := Option.map_eq_some_iff.1 info43
  simp only [Prod.mk.injEq] at hzz
  obtain ⟨hz0, hz1, hz2⟩ := hzz
  obtain ⟨h0, inner, hown, hr⟩ := Kd.raw_any h5.nds.own
  obtain ⟨O1, cap1, W6, hrun, hown6, hg⟩ := run_append_two (W.alloc (.cells c.toArray 43)) w.heap.size 25 ty 43 i0 _ 34 288 Try.underlying25 hi hz0 hz1 hz2 rfl (by decide) O cap xs.length inner (by have := hown; rw [h5.nds.len] at this; exact this) ⟨W.heap.size, 0, none⟩ 1 1 c (by omega)
    (by simpa using World.news_of_block (cs := c.toArray) (t := 43) (fr := (0, 0)) (heap_alloc_new W (.cells c.toArray 43))) hone (by simp only [maxLen]; omega) (by omega) h5.b.size (by omega)
  have hgO : (W.alloc (.cells c.toArray 43)).grownBy W6 (some O) := by
    rcases hg with ⟨-, hg⟩ | ⟨-, hg⟩
    · exact hg
    · exact ⟨hg.os, hg.tape, hg.output, hg.size, fun k hk _ => hg.block k hk (by simp)⟩
  have hO1 : O1 = O ∨ (W.alloc (.cells c.toArray 43)).heap.size ≤ O1 := by
    rcases hg with ⟨e, -⟩ | ⟨e, -⟩
    · exact .inl e
    · exact .inr e
  have hR : Kd.R (Kd.raw 34) 43 W6 w.heap.size (fun _ => True) (.slice (some ⟨O1, 0, none⟩) (xs.length + 1) cap1) (rows ++ [c]) := by
    refine Kd.R_appended (d := Kd.raw 34) (okp := fun _ => False) (W := W.alloc (.cells c.toArray 43)) h0 hr (p := c) (cs := c) ⟨rfl, hc34, hone⟩ (fun _ hk => hk.elim) (fun _ _ => trivial) (by rw [h5.nds.len]; exact hown6) (by simpa [Value.ownBlock] using hgO) ?_
    rcases hO1 with e | e
    · left; simp [Value.ownBlock, e]
    · right; exact ⟨O1, by simp [Value.ownBlock], e⟩
  have hOne : ∀ k, LdS w P0 O S vk (.slice none 0 0) k → k < (W.alloc (.cells c.toArray 43)).heap.size → k ≠ O1 := fun k hk hlt => by
    rcases hO1 with e | e
    · rw [e]; exact hk.2.1
    · omega
  have hL : ∀ k, LdS w P0 O S vk (.slice none 0 0) k → k < (W.alloc (.cells c.toArray 43)).heap.size → LdS w P0 O1 S vk (.slice none 0 0) k := fun k hk hlt => ⟨hk.1, (hOne k hk hlt), hk.2.2⟩
  have hM : ∀ k, LdS w P0 O S vk (.slice none 0 0) k → k < (W.alloc (.cells c.toArray 43)).heap.size → W6.heap[k]? = (W.alloc (.cells c.toArray 43)).heap[k]? := fun k hk hlt => hgO.block k hlt (fun e => hk.2.1 (by injection e))
  obtain ⟨cellsO, hcO⟩ := h5.nds.blk
  have hSO : w.heap.size ≤ S ∧ O1 ≠ S := by
    refine ⟨h.hS.1, ?_⟩
    rcases hO1 with e | e
    · rw [e]; exact h.hS.2
    · simp at e; omega
  refine ⟨O1, cap1, W6, hrun, ⟨?_, by simp [h.nds.len], fun j x d hj hx hd => ?_⟩, fun o ho => ?_, (fun e => by cases e), ?_, ?_, Kd.F_mono (Kd.F_step (Kd.F_bound h5.fk) (fun k hk _ => hM k hk.1 hk.2)) (fun k hk => hL k hk.1 hk.2), ?_, hSO⟩
  · rw [List.length_append, List.length_singleton]
    exact Kd.R_mono (Kd.raw_tight hR) (fun k hk => by simpa [Value.ownBlock] using hk)
  · have hne : j ≠ xs.length := fun e => hj (by rw [e])
    have hjl : j < xs.length := by
      have := (List.getElem?_eq_some_iff.1 hx).1
      simp at this; omega
    rw [List.getElem?_append_left hjl] at hx
    rw [List.getElem?_append_left (by rw [h.nds.len]; exact hjl)] at hd
    exact Kd.FK_mono (Kd.FK_step (Kd.FK_bound (h5.nds.elem j x d (by simp) hx hd)) (fun k hk _ => hM k hk.1 hk.2)) (fun k hk => hL k hk.1 hk.2)
  · cases ho
    refine ⟨y, c, by rw [List.getElem?_append_right (Nat.le_refl _), Nat.sub_self]; rfl, by rw [← h.nds.len, List.getElem?_append_right (Nat.le_refl _), Nat.sub_self]; rfl, hc1, ?_, by rw [hy]; exact Kd.R_nil _ _ _ _ _⟩
    exact Kd.FK_mono (ok := fun _ => False) (Kd.FK_step (hF (fun _ => False)) (fun k hk _ => hk.elim)) (fun k hk => hk.elim)
  · refine Kd.R_mono (Kd.R_grown (Kd.R_bound h5.kd) hgO (fun k hk e => ?_)) (fun _ hk => hk.1)
    obtain ⟨-, -, -, q, hq, cells, hc⟩ := hk
    injection e with e
    rw [e, hcO] at hc
    cases hc
    revert hq; decide
  · exact h5.blk.grown hgO (fun e => h.hS.2 (by injection e with e; exact e.symm))
  · exact pw_below_grown h5.b _ h5.b.size hgO (fun k e => by injection e with e; rw [← e]; exact h5.nds.base)
/-- what is open gets a kid more -/
theorem RefI.growO {o : Nat} {x : Nd} (h : RefI w P0 S Ak n cs W O cap ks xs (some o) vk vo rows) (hx : xs[o]? = some x) (k : Int) (hl : x.f1.length ≤ 100000000) (ty : TypeId) :
    ∃ vo1 W1, (Builtin.append_ #[30, 30] ty #[vo, .slice (some ⟨W.heap.size, 0, none⟩) 1 1]).run Try.prog (W.alloc (.cells #[.int .i64 k] 3)) = .ok vo1 W1 ∧ (∃ u, W1.cell? ⟨O, o * 34 + 1, none⟩ = some u) ∧ W1.frozen? ⟨O, o * 34 + 1, none⟩ = false ∧ O < W1.heap.size ∧
      ∃ rows1, RefI w P0 S Ak n cs (W1.setCell ⟨O, o * 34 + 1, none⟩ vo1) O cap ks (xs.set o { x with f1 := x.f1 ++ [k] }) (some o) vk vo1 rows1 := by
  have h5 := h.below (below_alloc (Below.refl _ W) (.cells #[.int .i64 k] 3))
  have hSW := BlkIs.lt h.blk
  obtain ⟨x', c, g1, g2, g3, g4, g5⟩ := h5.cur o rfl
  rw [hx] at g1
  cases g1
  obtain ⟨i0, hi, hzz⟩ := Option.map_eq_some_iff.1 info3
  simp only [Prod.mk.injEq] at hzz
  obtain ⟨hz0, hz1, hz2⟩ := hzz
  obtain ⟨h0, inner, hown, hr⟩ := g5
  obtain ⟨vo1, W1, hrun, hown1, hg, -, hat⟩ := run_append_own_at (P := Try.prog) (W.alloc (.cells #[.int .i64 k] 3)) S 30 ty 3 i0 _ 1 8 Try.underlying30 hi hz0 hz1 hz2 rfl (by decide) vo x.f1.length inner hown ⟨W.heap.size, 0, none⟩ 1 1 [.int .i64 k] rfl
    (by simpa using World.news_of_block (cs := #[.int .i64 k]) (t := 3) (fr := (0, 0)) (heap_alloc_new W (.cells #[.int .i64 k] 3))) (by intro u hu; rw [List.mem_singleton.1 hu]; rfl) (by simp only [maxLen]; omega) (by omega) (by simp; omega)
  have hat' : vo1.ownBlock = vo.ownBlock ∨ ∃ b, vo1.ownBlock = some b ∧ (W.alloc (.cells #[.int .i64 k] 3)).heap.size ≤ b := by
    rcases hat with hat | hat
    · exact .inl hat
    · exact .inr ⟨_, hat, Nat.le_refl _⟩
  have hR : Kd.R (Kd.int .i64) 3 W1 S (fun k => k ≠ S) vo1 (x.f1 ++ [k]) :=
    Kd.R_appended (d := Kd.int .i64) (okp := fun _ => False) h0 hr (p := k) (cs := [.int .i64 k]) rfl (fun _ hk => hk.elim) (fun k hk => by simp at hk; omega) hown1 hg hat'
  have hne : ∀ k', some k' ≠ vo.ownBlock → k' < (W.alloc (.cells #[.int .i64 k] 3)).heap.size → some k' ≠ vo1.ownBlock := fun k' hk hlt => by
    rcases hat' with e | ⟨b, e, hle⟩
    · rw [e]; exact hk
    · rw [e]; intro e2; injection e2 with e2; omega
  have g5' : Kd.R (Kd.int .i64) 3 (W.alloc (.cells #[.int .i64 k] 3)) S (fun k => k ≠ S) vo x.f1 := ⟨h0, inner, hown, hr⟩
  have hO := int_not_nodes (e := 0) g5' h5.nds.blk
  have hL : ∀ k', LdS w P0 O S vk vo k' → k' < (W.alloc (.cells #[.int .i64 k] 3)).heap.size → LdS w P0 O S vk vo1 k' := fun k' hk hlt => ⟨hk.1, hk.2.1, hk.2.2.1, hk.2.2.2.1, hne k' hk.2.2.2.2 hlt⟩
  have hM : ∀ k', LdS w P0 O S vk vo k' → k' < (W.alloc (.cells #[.int .i64 k] 3)).heap.size → W1.heap[k']? = (W.alloc (.cells #[.int .i64 k] 3)).heap[k']? := fun k' hk hlt => hg.block k' hlt hk.2.2.2.2
  have hn1 : NdsI w W1 (LdS w P0 O S vk vo1) O cap xs rows (some o) := h5.nds.step (hg.block O h5.nds.lt hO) hM hL
  have hol := (List.getElem?_eq_some_iff.1 hx).1
  obtain ⟨c', hc', hcl, hone, hcell, hfr⟩ := hn1.cells hol
  rw [g2] at hc'
  cases hc'
  obtain ⟨A1, cp1, hv1⟩ := Kd.R_slice hR
  have hkd1 : Kd.R (Kd.int .i64) 3 W1 S (fun k => k ≠ S ∧ some k ≠ vo1.ownBlock) vk ks := by
    refine Kd.R_mono (Kd.R_step (Kd.R_tight rfl h5.kd) (fun k' hk hlt => hg.block k' hlt ((h5.kd.1 k' hk.symm).2))) (fun k' hk => ?_)
    have := h5.kd.1 k' hk.symm
    exact ⟨this.1, hne k' this.2 (Kd.R_lt h5.kd k' hk.symm)⟩
  have hput := hn1.put (x' := { x with f1 := x.f1 ++ [k] }) hol g2 1 vo1 (by decide) (by rw [hv1]; rfl) (fun k' hk => hk.2.1) (fun e => absurd rfl e)
  have hOb := hn1.blk
  refine ⟨vo1, W1, hrun, ⟨_, hcell 1 _ (List.getElem?_eq_getElem (by omega))⟩, hfr 1, hn1.lt, _, hput, fun o' ho' => ?_, (fun e => by cases e), ?_, ?_, ?_, ?_, h.hS⟩
  · cases ho'
    refine ⟨{ x with f1 := x.f1 ++ [k] }, _, List.getElem?_set_self hol, List.getElem?_set_self (by rw [h.nds.len]; exact hol), ?_, ?_, ?_⟩
    · rw [List.append_assoc, List.getElem?_append_right (by rw [List.length_take]; omega), List.length_take]
      rw [show 1 - min 1 c.length = 0 by omega]; rfl
    · have e2 : (c.take 1 ++ [vo1] ++ c.drop (1 + 1)).take 1 ++ [Value.slice none 0 0] ++ (c.take 1 ++ [vo1] ++ c.drop (1 + 1)).drop (1 + 1) = c.take 1 ++ [Value.slice none 0 0] ++ c.drop (1 + 1) := by
        cases c with
        | nil => simp at hcl
        | cons c0 c =>
          cases c with
          | nil => simp at hcl
          | cons c1 rest => simp
      rw [e2]
      refine Kd.FK_step (Kd.FK_mono (Kd.FK_step (Kd.FK_bound g4) (fun k' hk _ => hM k' hk.1 hk.2)) (fun k' hk => hL k' hk.1 hk.2)) (fun k' hk _ => Below.heap_setCell W1 _ vo1 k' hk.2.1)
    · exact Kd.R_mono (Kd.R_far (p := ⟨O, o * 34 + 1, none⟩) (Kd.R_types hR hOb.choose_spec (by decide)) (fun k' hk => hk.2) vo1) (fun _ hk => hk.1)
  · exact Kd.R_mono (Kd.R_far (p := ⟨O, o * 34 + 1, none⟩) (Kd.R_types hkd1 hOb.choose_spec (by decide)) (fun k' hk => hk.2) vo1) (fun _ hk => hk.1)
  · exact BlkIs.other (h5.blk.grown hg (fun e => (h0 S e.symm) rfl)) (p := ⟨O, o * 34 + 1, none⟩) (fun e => h.hS.2 e.symm) vo1
  · exact Kd.F_step (Kd.F_mono (Kd.F_step (Kd.F_bound h5.fk) (fun k' hk _ => hM k' hk.1 hk.2)) (fun k' hk => hL k' hk.1 hk.2)) (fun k' hk _ => Below.heap_setCell W1 _ vo1 k' hk.2.1)
  · exact (pw_below_grown h5.b _ h5.b.size hg (fun k' e => by have := Kd.R_base g5' k' e; have := h.hS.1; omega)).setCell (p := ⟨O, o * 34 + 1, none⟩) h5.nds.base _
/-- a node is done: its kids are stored -/
theorem RefI.done (h : RefI w P0 S Ak n cs W O cap ks xs op vk vo rows) {i : Nat} (hn : xs[i]? = some n) :
    ∃ rows', NdsI w (W.setCell ⟨O, i * 34 + 1, none⟩ vk) (fun k => LdR w P0 k ∧ k ≠ O) O cap (xs.set i { n with f1 := ks }) rows' none ∧ Below w.heap.size w (W.setCell ⟨O, i * 34 + 1, none⟩ vk) ∧
      (∃ u, W.cell? ⟨O, i * 34 + 1, none⟩ = some u) ∧ W.frozen? ⟨O, i * 34 + 1, none⟩ = false ∧ O < W.heap.size := by
  have h1 := h.close
  have hil := (List.getElem?_eq_some_iff.1 hn).1
  obtain ⟨c, hc, hcl, hone, hcell, hfr⟩ := h1.nds.cells hil
  obtain ⟨A, cp, rfl⟩ := Kd.R_slice h.kd
  have hN : NdsI w W (fun k => LdR w P0 k ∧ k ≠ O) O cap xs rows none := h1.nds.step rfl (fun _ _ _ => rfl) (fun k hk _ => ⟨hk.1, hk.2.1⟩)
  have hF : Kd.F (Kd.int .i64) W (fun k => LdR w P0 k ∧ k ≠ O) A ks.length ks := Kd.F_mono (Kd.R_F (Kd.R_bound (Kd.R_tight rfl h.kd))) (fun k hk => by
    have hb := hk.2.1
    refine ⟨.inr (by have := h.hS.1; omega), fun e3 => ?_⟩
    exact int_not_nodes (e := 0) h.kd h.nds.blk (by rw [← e3]; exact hk.1))
  have hM := fk_kids (hN.elem i n c (by simp) hn hc) (cp := cp) (Kd.R_reads' h.kd).2.1 hF
  exact ⟨_, hN.put hil hc 1 (.slice A ks.length cp) (by decide) rfl (fun k hk => hk.2) (fun _ => hM), h.b.setCell (p := ⟨O, i * 34 + 1, none⟩) h.nds.base _, ⟨_, hcell 1 _ (List.getElem?_eq_getElem (by omega))⟩, hfr 1, h.nds.lt⟩
end
end Go.Proofs.Ytjhpkikgajgdmaa.K
