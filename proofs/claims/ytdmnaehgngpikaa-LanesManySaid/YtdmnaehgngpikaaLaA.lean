/- Layer 6: a node's kids of some kinds; append in a round; a group's rows. -/
import Derived.Test.YtdmnaehgngpikaaTrB
import Derived.Maps.OwnIn
import Derived.Test.YtdmnaehgngpikaaK3
namespace Go.Proofs.Ytdmnaehgngpikaa
open Go
set_option linter.unusedVariables false
set_option linter.unusedSimpArgs false
section
variable {F : Fence} {n : Nat} {P : Program} {ops : Array Oper} {Q : Exit → Act → World → Prop} {md : Region.Mode} {S : World → Prop} {k0 : Nat}
/-- each of the path awaits the next, the last one awaits i -/
def chainB (md : Region.Mode) (ops : Array Oper) : List Nat → Nat → Bool
  | [], _ => true
  | [p], i => waitsB md ops p i
  | p :: q :: r, i => waitsB md ops p q && chainB md ops (q :: r) i
theorem chain_not_ready {i : Nat} {listed : Array Bool} (hu : listed.getD i true = false) : ∀ path : List Nat, chainB md ops path i = true → (∀ p ∈ path, listed.getD p true = false) → ∀ p ∈ path, p ∉ Region.ready md ops listed
  | [], _, _, p, hp => by cases hp
  | [p0], h, _, p, hp => by
    obtain rfl := List.mem_singleton.1 hp
    exact waits_not_ready h hu
  | p0 :: q :: r, h, hl, p, hp => by
    unfold chainB at h
    rw [Bool.and_eq_true] at h
    rcases List.mem_cons.1 hp with rfl | hp
    · exact waits_not_ready h.1 (hl q (List.mem_cons_of_mem _ (List.mem_cons_self ..)))
    · exact chain_not_ready hu (q :: r) h.2 (fun p hp => hl p (List.mem_cons_of_mem _ hp)) p hp
theorem wpAnyInU_path {i : Nat} {oi : Oper} {v : Value} {path : List Nat} (hd : noDefer ops = true) (hi : ops[i]? = some oi) (hsel : ∀ (j : Nat) (o : Oper) cs b, ops[j]? = some o → o.op ≠ .select cs b)
    (hQ : ∀ c a w, Q (.panic c) (a.put oi.dst v) w → Q (.panic c) a w) (hp0 : k0 ∈ path) (hw : chainB md ops path i = true) (hik : i ≠ k0) :
    ∀ (fuel : Nat) (listed : Array Bool) (a : Act) (w : World),
      (∀ j oj, ops[j]? = some oj → j ≠ i → listed.getD j true = false → (∀ e ∈ oj.after, Region.binds md e = true → e.on ≠ i) → oi.apart ops oj = true) →
      i ∈ Region.ready md ops listed → YieldsH P ops S oi v a → S w → (∀ p ∈ path, listed.getD p true = false) →
      wpAnyInU F n P md ops Q S k0 fuel (listed.setIfInBounds i true) (a.put oi.dst v) w → wpAnyInU F n P md ops Q S k0 (fuel + 1) listed a w := by
  intro fuel
  induction fuel with
  | zero =>
    intro listed a w _ hr hy hS hk H
    refine ⟨fun h => (by rw [h] at hr; cases hr), fun j hj => ?_⟩
    by_cases hji : j = i
    · subst hji; exact hy.wpOpIn hd hi hS ⟨fun _ => hS, H⟩
    · have := ready_mono hj hji
      rw [H.1] at this
      cases this
  | succ fuel ih =>
    intro listed a w hfree hr hy hS hk H
    refine ⟨fun h => (by rw [h] at hr; cases hr), fun j hj => ?_⟩
    by_cases hji : j = i
    · subst hji; exact hy.wpOpIn hd hi hS ⟨fun _ => hS, H⟩
    · have h1 := H.2 j (ready_mono hj hji)
      obtain ⟨hjun, oj, hoj, hall⟩ := mem_ready.1 hj
      have hiun : listed.getD i true = false := (mem_ready.1 hr).1
      have hjp : ∀ p ∈ path, j ≠ p := fun p hp e => chain_not_ready hiun path hw hk p hp (e ▸ hj)
      have hjk : j ≠ k0 := hjp k0 hp0
      have hnot : ∀ e ∈ oj.after, Region.binds md e = true → e.on ≠ i := fun e he hb heq => by
        have h1 := hall e he hb
        have h0 := (mem_ready.1 hr).1
        rw [heq] at h1
        rcases Nat.lt_or_ge i listed.size with h' | h'
        · simp [h'] at h0 h1; rw [h0] at h1; cases h1
        · simp [Array.getElem?_eq_none h'] at h1
      have h2 := wpOpIn_putH hd hoj (hfree j oj hoj hji hjun hnot) (fun cs b => hsel i oi cs b hi) (fun cs b => hsel j oj cs b hoj) hQ hy h1
      have hfree' : ∀ k ok, ops[k]? = some ok → k ≠ i → (listed.setIfInBounds j true).getD k true = false →
          (∀ e ∈ ok.after, Region.binds md e = true → e.on ≠ i) → oi.apart ops ok = true := fun k ok hk hki hun hno => by
        refine hfree k ok hk hki ?_ hno
        by_cases hjk : j = k
        · subst hjk; exact hjun
        · rw [getD_set_ne true hjk] at hun; exact hun
      have hk1 : ∀ p ∈ path, (listed.setIfInBounds j true).getD p true = false := fun p hp => by rw [getD_set_ne true (hjp p hp)]; exact hk p hp
      have hk2 : ((listed.setIfInBounds i true).setIfInBounds j true).getD k0 true = false := by rw [getD_set_ne true hjk, getD_set_ne true hik]; exact hk k0 hp0
      refine wpOpIn_mono (fun a' w' h3 => ⟨fun _ => h3.2.1 hk2, ih (listed.setIfInBounds j true) a' w' hfree' (ready_mono hr (Ne.symm hji)) h3.1 (h3.2.1 hk2) hk1 ?_⟩) h2
      rw [Array.setIfInBounds_comm _ _ hji]
      exact h3.2.2
/-- take number i first -/
theorem takeV {i : Nat} {d : Tmp} {oi : Oper} {v : Value} {fuel : Nat} {listed : Array Bool} {a : Act} {w : World} (path : List Nat) (hi : ops[i]? = some oi) (hdst : oi.dst = some d) (hd : noDefer ops = true)
    (hs : Region.noSelect ops = true) (hf : Region.free md ops listed i = true) (hr : (Region.ready md ops listed).contains i = true)
    (hw : (chainB md ops path i && !(i == k0) && path.contains k0 && path.all fun p => !(listed.getD p true)) = true)
    (hQ : ∀ c a w, Q (.panic c) (a.put oi.dst v) w → Q (.panic c) a w) (hy : YieldsH P ops S oi v a) (hS : S w)
    (h : wpAnyInU F n P md ops Q S k0 fuel (listed.setIfInBounds i true) { tmps := a.tmps.setIfInBounds d v, defers := a.defers } w) : wpAnyInU F n P md ops Q S k0 (fuel + 1) listed a w := by
  simp only [Bool.and_eq_true, Bool.not_eq_true', beq_eq_false_iff_ne, List.contains_iff_mem, List.all_eq_true] at hw
  exact wpAnyInU_path hd hi (Region.noSelect_spec hs) hQ hw.1.2 hw.1.1.1 hw.1.1.2 fuel listed a w (Region.free_spec hi hf) (by simpa using hr) hy hS hw.2 (by unfold Act.put; rw [hdst]; exact h)
end
end Go.Proofs.Ytdmnaehgngpikaa
namespace Go.Proofs.Ytdmnaehgngpikaa.K
open Go.RowKit Go.Proofs.YtdmnaehgngpikaaW.PrintWords Go.Proofs.YtdmnaehgngpikaaW.PrintLast Go.Proofs.YtdmnaehgngpikaaW.PrintMore
set_option linter.unusedVariables false
set_option linter.unusedSimpArgs false
attribute [local go_sem] Oper.semAt_some
section
variable {F : Fence} {m : Nat} {P : Program} {ops : Array Oper} {rest : List Oper} {o : Oper} {a : Act} {Q : Exit → Act → World → Prop}
theorem print_appendIn {w0 W : World} (base : Nat) (hgd : o.guard = none) (s x : Operand) (t e : TypeId) (z : Value) (size bytes : Nat)
    (ho : o.op = .call { callee := .builtin .append, args := #[s, x], argTypes := #[t, t] })
    (ht : P.underlying t = some (.slice e)) (hinfo : (P.info? e).map (fun i => (i.zero, i.size, i.bytes)) = some (some z, size, bytes)) (hz : z.cells.size = size) (hs0 : 0 < size) (hb0 : 0 < bytes)
    (v : Value) (n : Nat) (xs ys : List Value) (hs : a.eval s = v) (hx : a.eval x = .slice (some ⟨W.heap.size, 0, none⟩) 1 1) (hys : ys.length = size) (h1 : ∀ u ∈ ys, u.oneCell' = true)
    (HO : W.ownsRow base e size v n xs) (HB : Below base w0 W) (hbase : base ≤ W.heap.size) (hl : (n + 1) * bytes ≤ 140737488355328)
    (h : ∀ v1 w1, w1.ownsRow base e size v1 (n + 1) (xs ++ ys) → Below base w0 w1 → W.grownBy w1 v.ownBlock → (v1.ownBlock = v.ownBlock ∨ ∃ b, v1.ownBlock = some b ∧ W.heap.size ≤ b) → wpListIn F m P ops Q rest (a.put o.dst v1) w1) :
    wpListIn F m P ops Q (o :: rest) a (W.alloc (.cells ys.toArray e)) := by
  obtain ⟨i0, hi, hzz⟩ := Option.map_eq_some_iff.1 hinfo
  simp only [Prod.mk.injEq] at hzz
  obtain ⟨hz0, hz1, hz2⟩ := hzz
  have hlen : n + 1 ≤ 140737488355328 := Nat.le_trans (Nat.le_mul_of_pos_right _ hb0) hl
  refine wpListIn_append_own_at (w := W.alloc (.cells ys.toArray e)) hgd s x t ho base e i0 z size bytes ht hi hz0 hz1 hz2 hz hs0 v n xs hs (HO.alloc _) ⟨W.heap.size, 0, none⟩ 1 1 ys hx (by rw [hys]; simp)
    (by simpa using World.news_of_block (cs := ys.toArray) (t := e) (fr := (0, 0)) (heap_alloc_new W (.cells ys.toArray e))) h1 (by simp only [maxLen]; omega) hl (by simp; omega) ?_
  intro v1 w1 hown hg _ hat
  refine h v1 w1 hown ((HB.alloc hbase _).grown hg (by simp; omega) (own_base HO)) (World.grownBy.trans (World.grownBy_alloc W _ _) hg) ?_
  rcases hat with hat | hat
  · exact .inl hat
  · exact .inr ⟨_, hat, by simp⟩
theorem R_appendIn {α : Type} (d : Kd α) {w0 W : World} (base : Nat) (hgd : o.guard = none) (s x : Operand) (t e : TypeId) (z : Value) (bytes : Nat)
    (ho : o.op = .call { callee := .builtin .append, args := #[s, x], argTypes := #[t, t] })
    (ht : P.underlying t = some (.slice e)) (hinfo : (P.info? e).map (fun i => (i.zero, i.size, i.bytes)) = some (some z, d.sz, bytes)) (hz : z.cells.size = d.sz) (hs0 : 0 < d.sz) (hb0 : 0 < bytes)
    (v : Value) (xs : List α) (p : α) (cs : List Value) (ok okp : Nat → Prop) (hs : a.eval s = v) (hx : a.eval x = .slice (some ⟨W.heap.size, 0, none⟩) 1 1) (hp : d.M W base okp p cs) (hokp : ∀ k, okp k → ok k ∧ some k ≠ v.ownBlock) (hfresh : ∀ k, W.heap.size ≤ k → ok k)
    (HO : d.R e W base ok v xs) (HB : Below base w0 W) (hbase : base ≤ W.heap.size) (hl : (xs.length + 1) * bytes ≤ 140737488355328)
    (h : ∀ v1 w1, d.R e w1 base ok v1 (xs ++ [p]) → Below base w0 w1 → W.grownBy w1 v.ownBlock → (v1.ownBlock = v.ownBlock ∨ ∃ b, v1.ownBlock = some b ∧ W.heap.size ≤ b) → wpListIn F m P ops Q rest (a.put o.dst v1) w1) :
    wpListIn F m P ops Q (o :: rest) a (W.alloc (.cells cs.toArray e)) := by
  obtain ⟨h0, inner, hown, hr⟩ := HO
  refine print_appendIn base hgd s x t e z d.sz bytes ho ht hinfo hz hs0 hb0 v xs.length inner cs hs hx (d.K_len (d.K_of_M hp)) (d.K_one (d.K_of_M hp)) hown HB hbase hl ?_
  intro v1 w1 hown1 hb1 hg1 hat1
  exact h v1 w1 (Kd.R_appended h0 hr hp hokp hfresh hown1 hg1 hat1) hb1 hg1 hat1
end
/-- a list that is told in a cell of block O -/
def RowB {α : Type} (d : Kd α) (e t : TypeId) (w : World) (O : Nat) (xs : List α) (V : World) : Prop := ∃ v, Blk V O t #[v] ∧ Kd.R d e V w.heap.size (fun k => k ≠ O) v xs ∧ Below w.heap.size w V
theorem rowB_stab {α β : Type} {d : Kd α} {e t : TypeId} {w : World} {O B : Nat} (f : β → List α) (hB : w.heap.size ≤ B) : Stab B (fun (s : β) V => RowB d e t w O (f s) V) := by
  rintro s V V' row ⟨v, h1, h2, h3⟩ hg hr
  exact ⟨v, Stab.blk O _ (fun _ : Unit => _) () V V' row h1 hg hr, Kd.R_mono (Kd.R_move (Kd.R_bound h2) (fun k hk => hg.block k hk.2.2.1 (fun e => by
        obtain ⟨_, o, ho, hb⟩ := hr k e.symm
        obtain ⟨_, _, _, q, _, cells, hc⟩ := hk
        rw [hc] at ho; cases ho; cases hb))) (fun _ hk => hk.1), (Stab.below (β := Unit) (Nat.le_refl _) hB) () V V' row h3 hg hr⟩
theorem RowB.below {α : Type} {d : Kd α} {e t : TypeId} {w : World} {O : Nat} {xs : List α} {V V' : World} (h : RowB d e t w O xs V) (hb : Below V.heap.size V V') : RowB d e t w O xs V' := by
  obtain ⟨v, h1, h2, h3⟩ := h
  exact ⟨v, (hb.block O (Blk.lt h1)).trans h1, Kd.R_below h2 hb, h3.trans (hb.mono h3.size)⟩
end Go.Proofs.Ytdmnaehgngpikaa.K
namespace Go.Proofs.Ytdmnaehgngpikaa.K
open Go.RowKit Go.Proofs.YtdmnaehgngpikaaW.PrintWords Go.Proofs.YtdmnaehgngpikaaW.PrintLast Go.Proofs.YtdmnaehgngpikaaW.PrintMore
set_option linter.unusedVariables false
set_option linter.unusedSimpArgs false
attribute [local go_sem] Oper.semAt_some
theorem wrapUp {j : Nat} (h : j < 9000000000000000000) : wrap64 ((j : Int) + 1) = ((j + 1 : Nat) : Int) := by unfold wrap64; omega
theorem index_l0 (xs : List Int) (z : Int) (hl : xs.length < 1000000000) : ∀ (d j k : Nat), j + d = xs.length → d < k → ∃ r, slices_Index_int_int.l0 k xs z (xs.length : Int) (j : Int) = some r ∧ decide (r ≥ 0) = (xs.drop j).contains z
  | _, _, 0, _, hk => by omega
  | 0, j, k + 1, h, hk => ⟨-1, by unfold slices_Index_int_int.l0; rw [if_neg (by omega)], by rw [List.drop_eq_nil_of_le (by omega)]; rfl⟩
  | d + 1, j, k + 1, h, hk => by
    have hj : j < xs.length := by omega
    have hrd : rd xs (j : Int) = xs[j] := by unfold rd; rw [Int.toNat_natCast, List.getD_eq_getElem?_getD, List.getElem?_eq_getElem hj]; rfl
    unfold slices_Index_int_int.l0
    rw [if_pos (by omega), if_pos (by omega), if_pos (by omega), hrd, List.drop_eq_getElem_cons hj, List.contains_cons]
    by_cases q : z = xs[j]
    · rw [if_pos q]; exact ⟨_, rfl, by rw [decide_eq_true (by omega), q]; simp⟩
    · rw [if_neg q, wrapUp (by omega)]
      obtain ⟨r, h1, h2⟩ := index_l0 xs z hl d (j + 1) k (by omega) (by omega)
      exact ⟨r, h1, by rw [h2, show (z == xs[j]) = false from beq_eq_false_iff_ne.2 q, Bool.false_or]⟩
theorem contains_any (A : Option Addr) (c : Nat) (xs : List Int) (z : Int) (W : World) (hr : Kd.C (Kd.int .i64) W A xs.length xs) (hc : xs.length ≤ c) (hl : xs.length < 1000000000) :
    Calls Try.prog 44 #[.slice A xs.length c, .int .i64 z] W fun e w' => e = .returned (.bool (xs.contains z)) ∧ Below W.heap.size W w' := by
  obtain ⟨r, h1, h2⟩ := index_l0 xs z hl xs.length 0 (xs.length + 1) (by omega) (by omega)
  rw [List.drop_zero] at h2
  have hf : slices_Contains_int_int.f (xs.length + 1) xs z = some (xs.contains z) := by
    unfold slices_Contains_int_int.f slices_Index_int_int.f
    rw [show slices_Index_int_int.l0 (xs.length + 1) xs z (xs.length : Int) 0 = some r from h1, Option.bind_some, h2]
  exact (slices_Contains_int_int.calls _ A c xs z _ W hr hc hf).mono fun e w' h => ⟨h.1, h.2.below⟩
def kindOf (l : List Nd) (k : Int) : Int := (rd_T48 l k).f0
/-- a node's kids of some kinds -/
def kidsK (l : List Nd) (a : Int) (ks : List Int) : List Int := (kidsOf l a).filter (fun k => ks.contains (kindOf l k))
def kidV (k : Int) : Array Value := #[.int .i64 k]
theorem take_filter (p : Int → Bool) {xs : List Int} {m : Nat} {y : Int} (h : xs[m]? = some y) : (xs.take (m + 1)).filter p = (xs.take m).filter p ++ (if p y then [y] else []) := by
  rw [List.take_add_one, h, List.filter_append]
  congr 1
  show List.filter p [y] = _
  cases q : p y <;> simp [q]
theorem filter_split (p : Int → Bool) {xs : List Int} {m : Nat} {y : Int} (h : xs[m]? = some y) (hp : p y = true) : ∃ rest, xs.filter p = (xs.take m).filter p ++ y :: rest := by
  refine ⟨(xs.drop (m + 1)).filter p, ?_⟩
  have h1 : xs = xs.take (m + 1) ++ xs.drop (m + 1) := (List.take_append_drop _ _).symm
  rw [show xs.filter p = (xs.take (m + 1)).filter p ++ (xs.drop (m + 1)).filter p by rw [← List.filter_append, ← h1], take_filter p h, if_pos hp, List.append_assoc]
  rfl
theorem grown_of {A B : World} (h : Below A.heap.size A B) : A.grownBy B none := ⟨h.os, h.tape, h.output, h.size, fun q hq _ => h.block q hq⟩
set_option maxRecDepth 100000 in
set_option maxHeartbeats 4000000 in
theorem kids1_iter (l : List Nd) (b1 b2 b3 : Nat) (A : Option Addr) (CS : Nat → List Value) (c : Nat) (hc : l.length ≤ c) (hbig : l.length ≤ 9223372036854775807) (a : Nat) (ha : a < l.length) (hki : KidsIn l)
    (Ak : Option Addr) (ck : Nat) (ks : List Int) (hks : ks.length ≤ ck) (hkl : ks.length < 1000000000) :
    IterC Try.prog 43 #[.pointer (some ⟨b1, 0, none⟩), .pointer (some ⟨b2, 0, none⟩), .pointer (some ⟨b3, 0, none⟩)] kidV (kidsK l a ks)
      (fun W => (W.cell? ⟨b1, 0, none⟩ = some (.slice A l.length c) ∧ W.cell? ⟨b2, 0, none⟩ = some (.int .i64 (a : Int)) ∧ W.cell? ⟨b3, 0, none⟩ = some (.slice Ak ks.length ck)) ∧ NodesAt W A CS l ∧ Kd.C (Kd.int .i64) W Ak ks.length ks) := by
  intro lp J Jx W hJ hJx hRd hY h0
  obtain ⟨x, hx⟩ : ∃ x, l[a]? = some x := ⟨_, List.getElem?_eq_getElem ha⟩
  have hkx : kidsOf l (a : Int) = x.f1 := by unfold kidsOf rd_T48; rw [Int.toNat_natCast, List.getD_eq_getElem?_getD, hx]; rfl
  have hin : ∀ k ∈ x.f1, 0 ≤ k ∧ k < (l.length : Int) := hki x (List.mem_of_getElem? hx)
  obtain ⟨p, hp⟩ : ∃ p : Int → Bool, p = fun k => ks.contains (kindOf l k) := ⟨_, rfl⟩
  have hkk : kidsK l a ks = x.f1.filter p := by unfold kidsK; rw [hkx, hp]
  rw [hkk] at hY ⊢
  obtain ⟨⟨hc1, hc2, hc3⟩, hN, -⟩ := hRd [] W h0
  obtain ⟨ad, hA, hlen, hone, hcells, hKk⟩ := hN a x hx
  obtain ⟨Akk, ckk, Aw, cw, hcs, hkkl, hkC, -, -⟩ := k48_open hKk
  have hck : (CS a)[1]? = some (.slice Akk x.f1.length ckk) := by rw [hcs]; rfl
  have y1 : W.cell? ⟨(ad.add (a * 34)).block, (ad.add (a * 34)).off + 1, none⟩ = some (.slice Akk x.f1.length ckk) := by rw [← add_field _ _ 1 (by omega)]; exact hcells 1 _ hck
  have hxl := hkC.2.1
  have HX := Lib.hid hx
  have HCK := Lib.hid hck
  have HKL := Lib.hid hkkl
  have HY := Lib.hid hY
  have HR := Lib.hid hRd
  have HJ := Lib.hid hJ
  have HIN := Lib.hid hin
  have HP := Lib.hid hp
  have HKS := Lib.hid (And.intro hks hkl)
  have haz : (a : Int) < (l.length : Int) := by omega
  have hax : ¬ ((a : Int) < 0) := by omega
  subst hA
  clear hY hRd hJ hJx hN hKk hcells hcs hkC hone hlen hkx hkk hin hki hx hkkl hck hks hkl hp
  refine callsIn_wide.1 (callsIn_of_wp (n := 0) Try.func43 rfl trivial ?_ rfl)
  simp only [Try.ntmps43, List.size_toArray, List.length_cons, List.length_nil, Nat.reduceAdd, Nat.reduceSub, Array.replicate_succ, Array.replicate_zero, List.push_toArray, List.append_toArray, List.nil_append, List.cons_append]
  gi_wp2
  clear hc1 hc2 hc3 y1
  gi_loopw [6, 13] (fun _ i wr => ∃ m : Nat, m ≤ x.f1.length ∧ i = .int .i64 m ∧ Aside0 (J ((x.f1.take m).filter p) wr)) (fun _ i _ => x.f1.length - (intOf i).toNat)
  case atStart => exact ⟨0, by omega, rfl, ⟨h0⟩⟩
  case round =>
    obtain ⟨m, hm, rfl, HJm⟩ := hrel
    clear h0
    by_cases hlt : m < x.f1.length
    · have hltz : (m : Int) < (x.f1.length : Int) := by omega
      obtain ⟨y, hy⟩ : ∃ y, x.f1[m]? = some y := ⟨_, List.getElem?_eq_getElem hlt⟩
      obtain ⟨hy0, hy1⟩ := HIN.out y (List.mem_of_getElem? hy)
      obtain ⟨yn, rfl⟩ := Int.eq_ofNat_of_zero_le hy0
      have hyn : yn < l.length := by omega
      obtain ⟨⟨z1, z2, z3⟩, hN, hKs⟩ := HR.out _ _ HJm.out
      obtain ⟨ad1, hA1, -, -, -, hK1⟩ := hN a x HX.out
      obtain ⟨Ak2, ck2, Aw2, cw2, hcs2, -, hkC2, -, -⟩ := k48_open hK1
      have hsame : (some (Value.slice Akk x.f1.length ckk)) = some (.slice Ak2 x.f1.length ck2) := HCK.out.symm.trans (by rw [hcs2]; rfl)
      injection hsame with hsame
      injection hsame with hs1 _ hs3
      subst hs1 hs3
      obtain ⟨ar, hAr, hcc⟩ := hkC2.2.2 (by omega)
      obtain ⟨cs, hcl, hK, hcell⟩ := hcc m _ hy
      obtain rfl : cs = [.int .i64 (yn : Int)] := hK
      have hx0 : wr.cell? (ar.add m) = some (.int .i64 (yn : Int)) := by have h := hcell 0 _ rfl; rwa [show ((Kd.int .i64).sz) = 1 from rfl, Nat.mul_one] at h
      obtain ⟨z, hz⟩ : ∃ z, l[yn]? = some z := ⟨_, List.getElem?_eq_getElem hyn⟩
      obtain ⟨ad2, hA2, hl2, -, hcells2, hK2⟩ := hN yn z hz
      obtain ⟨_, _, _, _, hcs3, -, -, -, -⟩ := k48_open hK2
      have hk0 : (CS yn)[0]? = some (.int .i64 z.f0) := by rw [hcs3]; rfl
      have hz0 : wr.cell? (ad2.add (yn * 34)) = some (.int .i64 z.f0) := hcells2 0 _ hk0
      injection hA2 with hA2
      subst hA2
      have hpy : p (yn : Int) = ks.contains z.f0 := by rw [HP.out]; show ks.contains (kindOf l (yn : Int)) = _; unfold kindOf rd_T48; rw [Int.toNat_natCast, List.getD_eq_getElem?_getD, hz]; rfl
      have hy0' : ¬ ((yn : Int) < 0) := by omega
      have HT := Lib.hid (take_filter p hy)
      have HSP := Lib.hid (fun hp => filter_split p hy hp)
      have HKs := Lib.hid hKs
      have HPY := Lib.hid hpy
      subst hAr
      clear hcc hcell hcl hkC2 hK1 hcs2 hA1 hN hK2 hcs3 hcells2 hk0 hy hz hl2 hKs hpy
      gi_upto_region 3 with fail
      refine beginU (fun V : World => (V.cell? ⟨b1, 0, none⟩ = some (.slice (some ad) l.length c) ∧ V.cell? ⟨b3, 0, none⟩ = some (.slice Ak ks.length ck)) ∧ V.cell? (ad.add (yn * 34)) = some (.int .i64 z.f0)) 6 (by kernel_rfl) ?_
      have HS : (fun V : World => (V.cell? ⟨b1, 0, none⟩ = some (.slice (some ad) l.length c) ∧ V.cell? ⟨b3, 0, none⟩ = some (.slice Ak ks.length ck)) ∧ V.cell? (ad.add (yn * 34)) = some (.int .i64 z.f0)) wr.drew := ⟨⟨z1, z3⟩, hz0⟩
      have HJ5 := Lib.hid (HJ.out _ _ _ HJm.out (grown_of ((Below.refl _ wr).drew)))
      have HK5 := Lib.hid (Kd.C_below HKs.out ((Below.refl _ wr).drew))
      clear z1 z2 z3 hx0 hz0 HJm HKs
      generalize wr.drew = w5 at HS HJ5 HK5 ⊢
      (refine takeV (i := 0) (d := 17) (v := ?_) [6] rfl rfl (by kernel_rfl) (by kernel_rfl) (by kernel_rfl) (by kernel_rfl) (by kernel_rfl) (fun _ _ _ h => h) ⟨Or.inl ⟨by kernel_rfl, ?_⟩, fun _ => rfl⟩ HS ?_; rotate_left; (focus (rintro wS ⟨⟨s1, s2⟩, s3⟩; go_simp; try (with_reducible rfl))); (simp only [List.setIfInBounds_toArray, List.set_cons_zero, List.set_cons_succ]))
      (refine takeV (i := 1) (d := 18) (v := ?_) [6, 5, 4, 3] rfl rfl (by kernel_rfl) (by kernel_rfl) (by kernel_rfl) (by kernel_rfl) (by kernel_rfl) (fun _ _ _ h => h) ⟨Or.inl ⟨by kernel_rfl, ?_⟩, fun _ => rfl⟩ HS ?_; rotate_left; (focus (rintro wS ⟨⟨s1, s2⟩, s3⟩; go_simp; try (with_reducible rfl))); (simp only [List.setIfInBounds_toArray, List.set_cons_zero, List.set_cons_succ]))
      (refine takeP (i := 2) (d := 19) (v := ?_) rfl rfl (by kernel_rfl) (by kernel_rfl) (by kernel_rfl) (by kernel_rfl) (by kernel_rfl) (fun _ _ _ h => h) ⟨Or.inl ⟨by kernel_rfl, ?_⟩, fun _ => rfl⟩ (fun _ => HS) ?_; rotate_left; (focus (rintro wS -; go_simp; try (with_reducible rfl))); (simp only [List.setIfInBounds_toArray, List.set_cons_zero, List.set_cons_succ]))
      (refine takeP (i := 3) (d := 20) (v := ?_) rfl rfl (by kernel_rfl) (by kernel_rfl) (by kernel_rfl) (by kernel_rfl) (by kernel_rfl) (fun _ _ _ h => h) ⟨Or.inl ⟨by kernel_rfl, ?_⟩, fun _ => rfl⟩ (fun _ => HS) ?_; rotate_left; (focus (rintro wS -; go_simp; try (with_reducible rfl))); (simp only [List.setIfInBounds_toArray, List.set_cons_zero, List.set_cons_succ]))
      (refine takeP (i := 4) (d := 21) (v := ?_) rfl rfl (by kernel_rfl) (by kernel_rfl) (by kernel_rfl) (by kernel_rfl) (by kernel_rfl) (fun _ _ _ h => h) ⟨Or.inl ⟨by kernel_rfl, ?_⟩, fun _ => rfl⟩ (fun _ => HS) ?_; rotate_left; (focus (rintro wS -; go_simp; try (with_reducible rfl))); (simp only [List.setIfInBounds_toArray, List.set_cons_zero, List.set_cons_succ]))
      (refine takeU (i := 5) (d := 22) (v := ?_) rfl rfl (by kernel_rfl) (by kernel_rfl) (by kernel_rfl) (by kernel_rfl) (by kernel_rfl) (by kernel_rfl) (fun _ _ _ h => h) ⟨Or.inl ⟨by kernel_rfl, ?_⟩, fun _ => rfl⟩ HS ?_; rotate_left; (focus (rintro wS ⟨⟨s1, s2⟩, s3⟩; go_simp; try (with_reducible rfl))); (simp only [List.setIfInBounds_toArray, List.set_cons_zero, List.set_cons_succ]))
      (refine oneU (i := 6) rfl (by kernel_rfl) (fun K hK => ?_); go_simp)
      refine (callsIn_wide.2 (contains_any Ak ck ks z.f0 w5 HK5.out HKS.out.1 HKS.out.2)).mono ?_
      rintro e w6 ⟨rfl, hb6⟩
      dsimp only
      have HJ6 := Lib.hid (HJ.out _ _ _ HJ5.out (grown_of hb6))
      clear HS HJ5 hb6 HK5
      (refine hK _ _ ⟨(no_more (by kernel_rfl)), ?_⟩; clear hK K; (try (simp only [List.setIfInBounds_toArray, List.set_cons_zero, List.set_cons_succ])))
      generalize ks.contains z.f0 = bb at HPY ⊢
      cases bb with
      | false =>
        have HE := Lib.hid (show (x.f1.take m).filter p = (x.f1.take (m + 1)).filter p by rw [HT.out, HPY.out]; simp)
        (refine takeP (i := 7) (d := 24) (v := ?_) rfl rfl (by kernel_rfl) (by kernel_rfl) (by kernel_rfl) (by kernel_rfl) (by kernel_rfl) (fun _ _ _ h => h) ⟨Or.inl ⟨by kernel_rfl, ?_⟩, fun _ => rfl⟩ (no_more (by kernel_rfl)) ?_; rotate_left; (focus (rintro wS -; go_simp; try (with_reducible rfl))); (simp only [List.setIfInBounds_toArray, List.set_cons_zero, List.set_cons_succ]))
        (refine takeP (i := 8) (d := 25) (v := undef) rfl rfl (by kernel_rfl) (by kernel_rfl) (by kernel_rfl) (by kernel_rfl) (by kernel_rfl) (fun _ _ _ h => h) ⟨Or.inr ⟨by kernel_rfl, rfl⟩, fun _ => rfl⟩ (no_more (by kernel_rfl)) ?_; (simp only [List.setIfInBounds_toArray, List.set_cons_zero, List.set_cons_succ]))
        (refine takeP (i := 9) (d := 26) (v := undef) rfl rfl (by kernel_rfl) (by kernel_rfl) (by kernel_rfl) (by kernel_rfl) (by kernel_rfl) (fun _ _ _ h => h) ⟨Or.inr ⟨by kernel_rfl, rfl⟩, fun _ => rfl⟩ (no_more (by kernel_rfl)) ?_; (simp only [List.setIfInBounds_toArray, List.set_cons_zero, List.set_cons_succ]))
        (refine takeP (i := 10) (d := 27) (v := undef) rfl rfl (by kernel_rfl) (by kernel_rfl) (by kernel_rfl) (by kernel_rfl) (by kernel_rfl) (fun _ _ _ h => h) ⟨Or.inr ⟨by kernel_rfl, rfl⟩, fun _ => rfl⟩ (no_more (by kernel_rfl)) ?_; (simp only [List.setIfInBounds_toArray, List.set_cons_zero, List.set_cons_succ]))
        (refine takeP (i := 11) (d := 28) (v := undef) rfl rfl (by kernel_rfl) (by kernel_rfl) (by kernel_rfl) (by kernel_rfl) (by kernel_rfl) (fun _ _ _ h => h) ⟨Or.inr ⟨by kernel_rfl, rfl⟩, fun _ => rfl⟩ (no_more (by kernel_rfl)) ?_; (simp only [List.setIfInBounds_toArray, List.set_cons_zero, List.set_cons_succ]))
        (refine takeP (i := 12) (d := 29) (v := ?_) rfl rfl (by kernel_rfl) (by kernel_rfl) (by kernel_rfl) (by kernel_rfl) (by kernel_rfl) (fun _ _ _ h => h) ⟨Or.inl ⟨by kernel_rfl, ?_⟩, fun _ => rfl⟩ (no_more (by kernel_rfl)) ?_; rotate_left; (focus (rintro wS -; go_simp; try (with_reducible rfl))); (simp only [List.setIfInBounds_toArray, List.set_cons_zero, List.set_cons_succ]))
        (refine doneU (by kernel_rfl) ?_ _)
        gi_wp2
        go_roundw
        case rel => exact ⟨m + 1, by omega, by go_num, ⟨by rw [← HE.out]; exact HJ6.out⟩⟩
        case measure => simp [intOf]; omega
      | true =>
        have HE := Lib.hid (show (x.f1.take m).filter p ++ [(yn : Int)] = (x.f1.take (m + 1)).filter p by rw [HT.out, HPY.out]; simp)
        obtain ⟨rest, hrest⟩ := HSP.out HPY.out
        obtain ⟨fn, tmps, assign, body, hyy, hRR⟩ := HY.out _ (yn : Int) _ _ hrest HJ6.out
        have HRest := Lib.hid hrest
        clear hrest
        dsimp only [kidV] at hyy
        (refine takeP (i := 7) (d := 24) (v := ?_) rfl rfl (by kernel_rfl) (by kernel_rfl) (by kernel_rfl) (by kernel_rfl) (by kernel_rfl) (fun _ _ _ h => h) ⟨Or.inl ⟨by kernel_rfl, ?_⟩, fun _ => rfl⟩ (no_more (by kernel_rfl)) ?_; rotate_left; (focus (rintro wS -; go_simp; try (with_reducible rfl))); (simp only [List.setIfInBounds_toArray, List.set_cons_zero, List.set_cons_succ]))
        (refine takeP (i := 8) (d := 25) (v := ?_) rfl rfl (by kernel_rfl) (by kernel_rfl) (by kernel_rfl) (by kernel_rfl) (by kernel_rfl) (fun _ _ _ h => h) ⟨Or.inl ⟨by kernel_rfl, ?_⟩, fun _ => rfl⟩ (no_more (by kernel_rfl)) ?_; rotate_left; (focus (rintro wS -; go_simp; try (with_reducible rfl))); (simp only [List.setIfInBounds_toArray, List.set_cons_zero, List.set_cons_succ]))
        (refine takeP (i := 9) (d := 26) (v := ?_) rfl rfl (by kernel_rfl) (by kernel_rfl) (by kernel_rfl) (by kernel_rfl) (by kernel_rfl) (fun _ _ _ h => h) ⟨Or.inl ⟨by kernel_rfl, ?_⟩, fun _ => rfl⟩ (no_more (by kernel_rfl)) ?_; rotate_left; (focus (rintro wS -; go_simp; try (with_reducible rfl))); (simp only [List.setIfInBounds_toArray, List.set_cons_zero, List.set_cons_succ]))
        (refine oneU (i := 10) rfl (by kernel_rfl) (fun K hK => ?_); go_simp)
        refine hRR.mono ?_
        rintro e w7 (⟨rfl, hJ7⟩ | ⟨rfl, hJ7⟩)
        · dsimp only
          have HJ7 := Lib.hid hJ7
          clear hJ7 HJ6 hyy hRR
          (refine hK _ _ ⟨(no_more (by kernel_rfl)), ?_⟩; clear hK K; (try (simp only [List.setIfInBounds_toArray, List.set_cons_zero, List.set_cons_succ])))
          (refine takeP (i := 11) (d := 28) (v := ?_) rfl rfl (by kernel_rfl) (by kernel_rfl) (by kernel_rfl) (by kernel_rfl) (by kernel_rfl) (fun _ _ _ h => h) ⟨Or.inl ⟨by kernel_rfl, ?_⟩, fun _ => rfl⟩ (no_more (by kernel_rfl)) ?_; rotate_left; (focus (rintro wS -; go_simp; try (with_reducible rfl))); (simp only [List.setIfInBounds_toArray, List.set_cons_zero, List.set_cons_succ]))
          (refine takeP (i := 12) (d := 29) (v := ?_) rfl rfl (by kernel_rfl) (by kernel_rfl) (by kernel_rfl) (by kernel_rfl) (by kernel_rfl) (fun _ _ _ h => h) ⟨Or.inl ⟨by kernel_rfl, ?_⟩, fun _ => rfl⟩ (no_more (by kernel_rfl)) ?_; rotate_left; (focus (rintro wS -; go_simp; try (with_reducible rfl))); (simp only [List.setIfInBounds_toArray, List.set_cons_zero, List.set_cons_succ]))
          (refine doneU (by kernel_rfl) ?_ _)
          gi_wp2
          go_roundw
          case rel => exact ⟨m + 1, by omega, by go_num, ⟨by rw [← HE.out]; exact HJ7.out⟩⟩
          case measure => simp [intOf]; omega
        · dsimp only
          have HJ7 := Lib.hid hJ7
          clear hJ7 HJ6 hyy hRR
          (refine hK _ _ ⟨(no_more (by kernel_rfl)), ?_⟩; clear hK K; (try (simp only [List.setIfInBounds_toArray, List.set_cons_zero, List.set_cons_succ])))
          (refine takeP (i := 11) (d := 28) (v := ?_) rfl rfl (by kernel_rfl) (by kernel_rfl) (by kernel_rfl) (by kernel_rfl) (by kernel_rfl) (fun _ _ _ h => h) ⟨Or.inl ⟨by kernel_rfl, ?_⟩, fun _ => rfl⟩ (no_more (by kernel_rfl)) ?_; rotate_left; (focus (rintro wS -; go_simp; try (with_reducible rfl))); (simp only [List.setIfInBounds_toArray, List.set_cons_zero, List.set_cons_succ]))
          (refine takeP (i := 12) (d := 29) (v := ?_) rfl rfl (by kernel_rfl) (by kernel_rfl) (by kernel_rfl) (by kernel_rfl) (by kernel_rfl) (fun _ _ _ h => h) ⟨Or.inl ⟨by kernel_rfl, ?_⟩, fun _ => rfl⟩ (no_more (by kernel_rfl)) ?_; rotate_left; (focus (rintro wS -; go_simp; try (with_reducible rfl))); (simp only [List.setIfInBounds_toArray, List.set_cons_zero, List.set_cons_succ]))
          (refine doneU (by kernel_rfl) ?_ _)
          gi_wp2
          refine bodyPost_ret (results_none rfl _ _ _) rfl ?_
          refine ⟨⟨_, rfl⟩, .inr ?_⟩
          first
            | exact ⟨_, (yn : Int), rest, HRest.out, HJ7.out⟩
            | exact ⟨_, (yn : Int), ⟨rest, HRest.out⟩, HJ7.out⟩
    · have hml : m = x.f1.length := by omega
      subst hml
      have HJn : Aside0 (J (x.f1.filter p) wr) := ⟨by have h := HJm.out; rwa [List.take_length] at h⟩
      clear HJm
      gi_wp2
      refine bodyPost_end (results_none rfl _ _ _) rfl ?_
      exact ⟨⟨_, rfl⟩, .inl HJn.out⟩
end Go.Proofs.Ytdmnaehgngpikaa.K
namespace Go.Proofs.Ytdmnaehgngpikaa.K
open Go.RowKit Go.Proofs.YtdmnaehgngpikaaW.PrintWords Go.Proofs.YtdmnaehgngpikaaW.PrintLast Go.Proofs.YtdmnaehgngpikaaW.PrintMore
set_option linter.unusedVariables false
set_option linter.unusedSimpArgs false
attribute [local go_sem] Oper.semAt_some
def kidsW (w : World) (A : Option Addr) (n c : Nat) (a : Int) (Ak : Option Addr) (nk ck : Nat) : World := ((w.alloc (.cells #[.slice A n c] 22)).alloc (.cells #[.int .i64 a] 3)).alloc (.cells #[.slice Ak nk ck] 33)
theorem kids_any (A : Option Addr) (n c : Nat) (a : Int) (Ak : Option Addr) (nk ck : Nat) (w : World) :
    Calls Try.prog 30 #[.slice A n c, .int .i64 a, .slice Ak nk ck] w fun e w' => e = .returned (.func (.func 43) #[] #[.pointer (some ⟨w.heap.size, 0, none⟩), .pointer (some ⟨w.heap.size + 1, 0, none⟩), .pointer (some ⟨w.heap.size + 1 + 1, 0, none⟩)]) ∧ kidsW w A n c a Ak nk ck = w' := by
  unfold kidsW
  go_enter Try.func30, Try.ntmps30
  go_wp2
  go_ret
  exact ⟨rfl, rfl⟩
/-- the blocks of the iterator's own words -/
structure KidsB (W : World) (N : Nat) (A : Option Addr) (n c : Nat) (a : Int) (Ak : Option Addr) (nk ck : Nat) : Prop where
  b1 : Blk W N 22 #[.slice A n c]
  b2 : Blk W (N + 1) 3 #[.int .i64 a]
  b3 : Blk W (N + 1 + 1) 33 #[.slice Ak nk ck]
theorem kidsW_blk (w : World) (A : Option Addr) (n c : Nat) (a : Int) (Ak : Option Addr) (nk ck : Nat) : KidsB (kidsW w A n c a Ak nk ck) w.heap.size A n c a Ak nk ck := by
  unfold kidsW
  refine ⟨Blk.alloc (Blk.alloc (Blk.new w _ _) _) _, Blk.alloc ?_ _, ?_⟩
  · have := Blk.new (w.alloc (.cells #[.slice A n c] 22)) 3 #[.int .i64 a]
    rwa [World.size_alloc] at this
  · have := Blk.new ((w.alloc (.cells #[.slice A n c] 22)).alloc (.cells #[.int .i64 a] 3)) 33 #[.slice Ak nk ck]
    rwa [World.size_alloc, World.size_alloc] at this
theorem kidsW_below (w : World) (A : Option Addr) (n c : Nat) (a : Int) (Ak : Option Addr) (nk ck : Nat) : Below w.heap.size w (kidsW w A n c a Ak nk ck) := by
  unfold kidsW
  exact (((Below.refl _ w).alloc (Nat.le_refl _) _).alloc (by simp) _).alloc (by simp; omega) _
theorem kidsW_size (w : World) (A : Option Addr) (n c : Nat) (a : Int) (Ak : Option Addr) (nk ck : Nat) : (kidsW w A n c a Ak nk ck).heap.size = w.heap.size + 3 := by
  unfold kidsW; simp
theorem KidsB.below {W V : World} {N : Nat} {A : Option Addr} {n c : Nat} {a : Int} {Ak : Option Addr} {nk ck : Nat} (h : KidsB W N A n c a Ak nk ck) (hb : Below W.heap.size W V) : KidsB V N A n c a Ak nk ck :=
  ⟨(hb.block _ (Blk.lt h.b1)).trans h.b1, (hb.block _ (Blk.lt h.b2)).trans h.b2, (hb.block _ (Blk.lt h.b3)).trans h.b3⟩
theorem KidsB.cells {W : World} {N : Nat} {A : Option Addr} {n c : Nat} {a : Int} {Ak : Option Addr} {nk ck : Nat} (h : KidsB W N A n c a Ak nk ck) :
    W.cell? ⟨N, 0, none⟩ = some (.slice A n c) ∧ W.cell? ⟨N + 1, 0, none⟩ = some (.int .i64 a) ∧ W.cell? ⟨N + 1 + 1, 0, none⟩ = some (.slice Ak nk ck) := ⟨Blk.cell h.b1 0, Blk.cell h.b2 0, Blk.cell h.b3 0⟩
set_option maxRecDepth 100000 in
theorem first_any (gf : Nat) (lb : Array Value) (xs : List Int) (Rd : World → Prop) (hit : IterC Try.prog gf lb kidV xs Rd) (eg : ∀ args w, (callFunc gf args).run Try.prog w = .ok (.enter gf args) w)
    (none_ : Int) (w : World) (hS : ∀ V, Below w.heap.size w V → Rd V) :
    Calls Try.prog 29 #[.func (.func gf) #[] lb, .int .i64 none_] w fun e w' => e = .returned (.int .i64 (xs.headD none_)) ∧ Below w.heap.size w w' := by
  refine calls_of_wp_marks Try.func29 rfl ?_
  simp only [Try.ntmps29, List.size_toArray, List.length_cons, List.length_nil, Nat.reduceAdd, Nat.reduceSub, Array.replicate_succ, Array.replicate_zero, List.push_toArray, List.append_toArray, List.nil_append, List.cons_append]
  go_wp2
  have hb0 : Blk (w.alloc (.cells #[.int .i64 0] 3)) w.heap.size 3 #[.int .i64 0] := Blk.new w _ _
  have hB0 := (Below.refl w.heap.size w).alloc (Nat.le_refl _) (.cells #[.int .i64 0] 3)
  have hs0 : (w.alloc (.cells #[.int .i64 0] 3)).heap.size = w.heap.size + 1 := by simp
  generalize w.alloc (.cells #[.int .i64 0] 3) = W0 at hb0 hB0 hs0 ⊢
  refine wp_range_plain hit eg rfl (fun _ => rfl)
    (fun (pre : List Int) V => pre = [] ∧ Blk V w.heap.size 3 #[.int .i64 0] ∧ Below w.heap.size w V)
    (fun (cd : Code) V => (cd = .ret ∧ xs ≠ []) ∧ Blk V w.heap.size 3 #[.int .i64 (xs.headD none_)] ∧ Below w.heap.size w V)
    (Stab.and (Stab.pure _ _) (Stab.and (Stab.blk _ _ _) (Stab.below (Nat.le_refl _) (by omega))))
    (Stab.and (Stab.pure _ _) (Stab.and (Stab.blk _ _ _) (Stab.below (Nat.le_refl _) (by omega))))
    (fun pre V h => hS V h.2.2) ⟨rfl, hb0, hB0⟩ ?round ?done ?stop
  case round =>
    rintro lp pre y rest W hx hl ⟨rfl, hb, hB⟩
    obtain rfl : xs = y :: rest := hx
    dsimp only [kidV]
    clear hb0 hB0
    gi_wp2
    refine ⟨by (repeat (first | (with_reducible exact KeepBook.refl _) | (with_reducible refine KeepBook.alloc ?_ _) | (with_reducible refine KeepBook.setCell ?_ _ _) | (with_reducible refine KeepBook.drew ?_) | (refine KeepBook.below ?_ (by assumption)))), ?_⟩
    rintro W2 hs _
    have hb2 := hs.blk hb
    have hB2 : Below w.heap.size w W2 := hs.below hB (Nat.le_refl _) (by omega)
    have y0 : W2.cell? ⟨w.heap.size, 0, none⟩ = some (.int .i64 0) := Blk.cell hb2 0
    have f0 := Blk.frozen hb2 0
    have l0 := Blk.lt hb2
    have HB2 := Lib.hid hb2
    have HBB := Lib.hid hB2
    clear hb hB hs hb2 hB2
    gi_wp2
    exact ⟨(KeepBook.refl W2).setCell _ _, ⟨rfl, by simp⟩, Blk.set HB2.out 0 _, HBB.out.setCell (p := ⟨w.heap.size, 0, none⟩) (Nat.le_refl _) _⟩
  case done =>
    rintro D W hD ⟨rfl, hb, hB⟩ hbook hd
    have y0 : W.cell? ⟨w.heap.size, 0, none⟩ = some (.int .i64 0) := Blk.cell hb 0
    have f0 := Blk.frozen hb 0
    have l0 := Blk.lt hb
    have HB2 := Lib.hid hb
    have HBB := Lib.hid hB
    have HD := Lib.hid hd
    clear hb hB hd hbook hb0 hB0
    go_wp2
    refine leaves_marks (v := .int .i64 none_) (B := w.heap.size) ⟨[D], rfl, by simp, by simp; exact ⟨by omega, ((KeepBook.refl W).setCell _ _).same D _ HD.out rfl⟩⟩ (fun W' hs => ⟨?_, rfl, ?_⟩)
    · have h1 := Blk.cell (hs.blk (Blk.set HB2.out 0 (.int .i64 none_))) 0
      have h2 : W'.cell? ⟨w.heap.size, 0, none⟩ = some (.int .i64 none_) := h1
      simp [results, Try.results29, asAddr]
      go_simp
    · exact hs.stab _ (Stab.below (Nat.le_refl _) (Nat.le_refl _)) (HBB.out.setCell (p := ⟨w.heap.size, 0, none⟩) (Nat.le_refl _) _)
  case stop =>
    rintro D cd W hD ⟨⟨rfl, hne⟩, hb, hB⟩ hbook hd
    have HB2 := Lib.hid hb
    have HBB := Lib.hid hB
    have HD := Lib.hid hd
    clear hb hB hd hbook hb0 hB0
    go_wp2
    refine leaves_marks (v := .int .i64 (xs.headD none_)) (B := w.heap.size) ⟨[D], rfl, by simp, by simp; exact ⟨by omega, HD.out⟩⟩ (fun W' hs => ⟨?_, rfl, ?_⟩)
    · have h1 := Blk.cell (hs.blk HB2.out) 0
      have h2 : W'.cell? ⟨w.heap.size, 0, none⟩ = some (.int .i64 (xs.headD none_)) := h1
      simp [results, Try.results29, asAddr]
      go_simp
    · exact hs.stab _ (Stab.below (Nat.le_refl _) (Nat.le_refl _)) HBB.out
theorem kidsB_stab {β : Type} (B N : Nat) (A : Option Addr) (n c : Nat) (a : Int) (Ak : Option Addr) (nk ck : Nat) : Stab B (fun (_ : β) V => KidsB V N A n c a Ak nk ck) := fun s V V' row h hg hr =>
  ⟨Stab.blk N _ (fun _ : Unit => _) () V V' row h.b1 hg hr, Stab.blk (N + 1) _ (fun _ : Unit => _) () V V' row h.b2 hg hr, Stab.blk (N + 1 + 1) _ (fun _ : Unit => _) () V V' row h.b3 hg hr⟩
def laneP (a k : Int) : S35 := ⟨k, a⟩
/-- a group's rows -/
def rowsP (l : List Nd) (a : Nat) : List S35 := (kidsK l a [9]).map (laneP a)
theorem laneInfo : (Try.prog.info? 35).map (fun i => (i.zero, i.size, i.bytes)) = some (some (.agg #[(.int .i64 0), (.int .i64 0)]), 2, 16) := by kernel_rfl
theorem kidsK_len (l : List Nd) (a : Nat) (ks : List Int) (hK : ∀ n ∈ l, n.f1.length ≤ 1000000000) : (kidsK l a ks).length ≤ 1000000000 := by
  unfold kidsK
  refine Nat.le_trans (List.length_filter_le ..) ?_
  unfold kidsOf rd_T48
  rw [List.getD_eq_getElem?_getD]
  cases q : l[(a : Int).toNat]? with
  | none => simp [z48]
  | some x => exact hK x (List.mem_of_getElem? q)
set_option maxRecDepth 100000 in
set_option maxHeartbeats 2000000 in
theorem rows_any (l : List Nd) (A : Option Addr) (c : Nat) (w : World) (hNC : Kd.C k48 w A l.length l) (hc : l.length ≤ c) (a : Nat) (ha : a < l.length) (hki : KidsIn l) (hK : ∀ n ∈ l, n.f1.length ≤ 1000000000) :
    Calls Try.prog 31 #[.slice A l.length c, .int .i64 (a : Int)] w fun e w' => ∃ v, e = .returned v ∧ Kd.R k35 35 w' w.heap.size (fun _ => True) v (rowsP l a) ∧ Below w.heap.size w w' := by
  obtain ⟨CS, hCS⟩ := nodesAt_of hNC
  have HN := Lib.hid hCS
  have hbig := hNC.2.1
  have HLEN := Lib.hid (kidsK_len l a [9] hK)
  have HIT := Lib.hid (fun b => kids1_iter l b (b + 1) (b + 1 + 1) A CS c hc hbig a ha hki (some ⟨w.heap.size + 1 + 1, 0, none⟩) 1 [9] (Nat.le_refl _) (by decide))
  clear hNC hCS hbig hc ha hki hK
  refine calls_of_wp_marks Try.func31 rfl ?_
  simp only [Try.ntmps31, List.size_toArray, List.length_cons, List.length_nil, Nat.reduceAdd, Nat.reduceSub, Array.replicate_succ, Array.replicate_zero, List.push_toArray, List.append_toArray, List.nil_append, List.cons_append]
  go_wp2_with (go_at_call 30; refine (kids_any A l.length c (a : Int) (some ⟨w.heap.size + 1 + 1, 0, none⟩) 1 1 _).mono ?_; rintro e w1 ⟨rfl, rfl⟩)
  have hs3 : (((w.alloc (.cells #[.int .i64 (a : Int)] 3)).alloc (.cells #[.slice none 0 0] 25)).alloc (.cells #[.int .i64 9] 3)).heap.size = w.heap.size + 1 + 1 + 1 := by simp
  have g0 : Blk (((w.alloc (.cells #[.int .i64 (a : Int)] 3)).alloc (.cells #[.slice none 0 0] 25)).alloc (.cells #[.int .i64 9] 3)) w.heap.size 3 #[.int .i64 (a : Int)] := Blk.alloc (Blk.alloc (Blk.new w _ _) _) _
  have g1 : Blk (((w.alloc (.cells #[.int .i64 (a : Int)] 3)).alloc (.cells #[.slice none 0 0] 25)).alloc (.cells #[.int .i64 9] 3)) (w.heap.size + 1) 25 #[.slice none 0 0] := by
    have := Blk.new (w.alloc (.cells #[.int .i64 (a : Int)] 3)) 25 #[.slice none 0 0]
    rw [World.size_alloc] at this; exact Blk.alloc this _
  have g2 : Blk (((w.alloc (.cells #[.int .i64 (a : Int)] 3)).alloc (.cells #[.slice none 0 0] 25)).alloc (.cells #[.int .i64 9] 3)) (w.heap.size + 1 + 1) 3 #[.int .i64 9] := by
    have := Blk.new ((w.alloc (.cells #[.int .i64 (a : Int)] 3)).alloc (.cells #[.slice none 0 0] 25)) 3 #[.int .i64 9]
    rw [World.size_alloc, World.size_alloc] at this; exact this
  have hB3 : Below w.heap.size w (((w.alloc (.cells #[.int .i64 (a : Int)] 3)).alloc (.cells #[.slice none 0 0] 25)).alloc (.cells #[.int .i64 9] 3)) := (((Below.refl _ w).alloc (Nat.le_refl _) _).alloc (by simp) _).alloc (by simp; omega) _
  generalize ((w.alloc (.cells #[.int .i64 (a : Int)] 3)).alloc (.cells #[.slice none 0 0] 25)).alloc (.cells #[.int .i64 9] 3) = W3 at hs3 g0 g1 g2 hB3 ⊢
  have hk4 := kidsW_blk W3 A l.length c (a : Int) (some ⟨w.heap.size + 1 + 1, 0, none⟩) 1 1
  have hb4 := kidsW_below W3 A l.length c (a : Int) (some ⟨w.heap.size + 1 + 1, 0, none⟩) 1 1
  have hs4 := kidsW_size W3 A l.length c (a : Int) (some ⟨w.heap.size + 1 + 1, 0, none⟩) 1 1
  rw [hs3] at hk4 hs4
  generalize kidsW W3 A l.length c (a : Int) (some ⟨w.heap.size + 1 + 1, 0, none⟩) 1 1 = W4 at hk4 hb4 hs4 ⊢
  have g0' := (hb4.block _ (Blk.lt g0)).trans g0
  have g1' := (hb4.block _ (Blk.lt g1)).trans g1
  have g2' := (hb4.block _ (Blk.lt g2)).trans g2
  have hB4 : Below w.heap.size w W4 := hB3.trans (hb4.mono (by omega))
  clear g0 g1 g2 hB3 hb4 hs3
  refine wp_range_plain (HIT.out (w.heap.size + 1 + 1 + 1)) (enters_of Try.func43 (by kernel_rfl) rfl) rfl (fun _ => rfl)
    (fun (pre : List Int) V => RowB k35 35 25 w (w.heap.size + 1) (pre.map (laneP a)) V ∧ Blk V w.heap.size 3 #[.int .i64 (a : Int)] ∧ Blk V (w.heap.size + 1 + 1) 3 #[.int .i64 9] ∧ KidsB V (w.heap.size + 1 + 1 + 1) A l.length c (a : Int) (some ⟨w.heap.size + 1 + 1, 0, none⟩) 1 1)
    (fun (cd : Code) V => False)
    (Stab.and (rowB_stab _ (by omega)) (Stab.and (Stab.blk _ _ _) (Stab.and (Stab.blk _ _ _) (kidsB_stab _ _ _ _ _ _ _ _ _))))
    (Stab.pure _ (fun _ => False))
    (fun pre V h => ⟨h.2.2.2.cells, HN.out.below h.1.choose_spec.2.2, c_ints (b := w.heap.size + 1 + 1) (xs := [9]) h.2.2.1 rfl (by decide)⟩)
    ⟨⟨_, g1', Kd.R_nil _ _ _ _ _, hB4⟩, g0', g2', hk4⟩ ?round ?done (fun _ _ _ _ h => h.elim)
  case done =>
    rintro D W hD ⟨⟨v, hb, hR, hB⟩, h0, h2, hk⟩ hbook hd
    have y0 : W.cell? ⟨w.heap.size + 1, 0, none⟩ = some v := Blk.cell hb 0
    have l0 := Blk.lt hb
    have HRR := Lib.hid hR
    have HBB := Lib.hid hB
    have HD := Lib.hid hd
    clear hb hR hB hd hbook h0 h2 hk g0' g1' g2' hB4 hk4
    go_wp2
    refine leaves_marks (v := v) (B := w.heap.size) ⟨[D], rfl, by simp, by simp; exact ⟨by omega, HD.out⟩⟩ (fun W' hs => ⟨?_, v, rfl, ?_, ?_⟩)
    · simp [results, Try.results31]
    · have hr := hs.stab (fun V => Kd.R k35 35 V w.heap.size (fun k => k ≠ w.heap.size + 1) v (rowsP l a)) (fun _ V V' row hV hg hr => Kd.R_mono (Kd.R_move (Kd.R_bound hV) (fun k hk => hg.block k hk.2.2.1 (fun e => by
        obtain ⟨_, o, ho, hb⟩ := hr k e.symm
        obtain ⟨_, _, _, q, _, cells, hc⟩ := hk
        rw [hc] at ho; cases ho; cases hb))) (fun _ hk => hk.1)) HRR.out
      exact Kd.R_mono hr (fun _ _ => trivial)
    · exact hs.stab _ (Stab.below (Nat.le_refl _) (Nat.le_refl _)) HBB.out
  case round =>
    rintro lp pre y rest W hx hl ⟨⟨v, hb, hR, hB⟩, h0, h2, hk⟩
    have hpl : pre.length < 1000000000 := by have := HLEN.out; rw [hx] at this; simp at this; omega
    clear hx g0' g1' g2' hB4 hk4
    dsimp only [kidV]
    gi_wp2
    refine ⟨by (repeat (first | (with_reducible exact KeepBook.refl _) | (with_reducible refine KeepBook.alloc ?_ _) | (with_reducible refine KeepBook.setCell ?_ _ _) | (with_reducible refine KeepBook.drew ?_) | (refine KeepBook.below ?_ (by assumption)))), ?_⟩
    rintro W2 hs _
    have hI2 := hs.stab (fun V => RowB k35 35 25 w (w.heap.size + 1) (pre.map (laneP a)) V) (fun _ V V' row h hg hr => rowB_stab (β := Unit) (fun _ => pre.map (laneP a)) (by omega) () V V' row h hg hr) ⟨v, hb, hR, hB⟩
    have h02 := Aside0.mk (hs.blk h0)
    have h22 := Aside0.mk (hs.blk h2)
    have hk2 := Aside0.mk (hs.stab (fun V => KidsB V (w.heap.size + 1 + 1 + 1) A l.length c (a : Int) (some ⟨w.heap.size + 1 + 1, 0, none⟩) 1 1) (fun _ V V' row h hg hr => kidsB_stab (β := Unit) _ _ _ _ _ _ _ _ _ () V V' row h hg hr) hk)
    clear hb hR hB h0 h2 hk hs
    clear v
    obtain ⟨v, hb, hR, hB⟩ := hI2
    have y0 : W2.cell? ⟨w.heap.size + 1, 0, none⟩ = some v := Blk.cell hb 0
    have f0 := Blk.frozen hb 0
    have l0 := Blk.lt hb
    have z0 : W2.cell? ⟨w.heap.size, 0, none⟩ = some (.int .i64 (a : Int)) := Blk.cell h02.out 0
    have HBk := Aside0.mk hb
    have HRR := Aside0.mk hR
    have HBB := Aside0.mk hB
    clear hb hR hB
    gi_wp2_with (gi_at_builtin; go_loud (refine R_appendIn k35 (w0 := w) w.heap.size rfl (.tmp 12) (.tmp 16) 25 35 (.agg #[(.int .i64 0), (.int .i64 0)]) 16 rfl Try.underlying25 laneInfo rfl (by decide) (by omega) v (pre.map (laneP a)) (laneP a y) [.int .i64 y, .int .i64 (a : Int)] (fun k => k ≠ w.heap.size + 1) (fun _ => False) rfl ?hx ?aP (fun _ hk => hk.elim) ?aF HRR.out HBB.out ?aS ?aL ?_); (case hx => go_simp); (case aP => exact k35_mkM _ _ _ _); (case aF => exact (fun k hk => by omega)); (case aS => exact HBB.out.size); (case aL => rw [List.length_map]; omega); intro v1 w1 ho hb hg hat; obtain ⟨A1', m1, c1', rfl⟩ : ∃ A m c, v1 = .slice A m c := (by obtain ⟨A, c, h⟩ := Kd.R_slice ho; exact ⟨A, _, c, h⟩); have hO' := (hg.block (w.heap.size + 1) l0 (fun e => HRR.out.1 _ e.symm rfl)).trans HBk.out; have y6 : w1.cell? ⟨w.heap.size + 1, 0, none⟩ = some v := Blk.cell hO' 0; have f6 := Blk.frozen hO' 0; have l6 := Blk.lt hO'; have HO1 := Aside0.mk ho; have HB1 := Aside0.mk hb; have HG1 := Aside0.mk hg; have HOo := Aside0.mk hO'; clear ho hb hg hat hO')
    have hbook : KeepBook W2 (w1.setCell ⟨w.heap.size + 1, 0, none⟩ (.slice A1' m1 c1')) := ((KeepBook.refl W2).grown HG1.out (fun j o e ho => by
      obtain ⟨cells, hc⟩ := own_typed HRR.out.2.choose_spec.1 j e
      rw [hc] at ho; cases ho; rfl)).setCell _ _
    have n0 := (HG1.out.block _ (Blk.lt h02.out) (Kd.R_ne HRR.out h02.out (by decide))).trans h02.out
    have n2 := (HG1.out.block _ (Blk.lt h22.out) (Kd.R_ne HRR.out h22.out (by decide))).trans h22.out
    have m1' := (HG1.out.block _ (Blk.lt hk2.out.b1) (Kd.R_ne HRR.out hk2.out.b1 (by decide))).trans hk2.out.b1
    have m2' := (HG1.out.block _ (Blk.lt hk2.out.b2) (Kd.R_ne HRR.out hk2.out.b2 (by decide))).trans hk2.out.b2
    have m3' := (HG1.out.block _ (Blk.lt hk2.out.b3) (Kd.R_ne HRR.out hk2.out.b3 (by decide))).trans hk2.out.b3
    refine ⟨hbook, ⟨_, Blk.set HOo.out 0 _, ?_, HB1.out.setCell (p := ⟨w.heap.size + 1, 0, none⟩) (by show w.heap.size ≤ w.heap.size + 1; omega) _⟩, Blk.other n0 (p := ⟨w.heap.size + 1, 0, none⟩) (by show w.heap.size ≠ w.heap.size + 1; omega) _, Blk.other n2 (p := ⟨w.heap.size + 1, 0, none⟩) (by show w.heap.size + 1 + 1 ≠ w.heap.size + 1; omega) _, Blk.other m1' (p := ⟨w.heap.size + 1, 0, none⟩) (by show w.heap.size + 1 + 1 + 1 ≠ w.heap.size + 1; omega) _, Blk.other m2' (p := ⟨w.heap.size + 1, 0, none⟩) (by show w.heap.size + 1 + 1 + 1 + 1 ≠ w.heap.size + 1; omega) _, Blk.other m3' (p := ⟨w.heap.size + 1, 0, none⟩) (by show w.heap.size + 1 + 1 + 1 + 1 + 1 ≠ w.heap.size + 1; omega) _⟩
    rw [List.map_append]
    exact Kd.R_set HO1.out HOo.out (by decide) 0 _
end Go.Proofs.Ytdmnaehgngpikaa.K
