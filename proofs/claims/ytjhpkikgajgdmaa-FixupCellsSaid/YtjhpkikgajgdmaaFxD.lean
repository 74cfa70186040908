/- Layer 5: FixupCells, walked. -/
import Derived.Test.YtjhpkikgajgdmaaFxC
import Derived.Test.YtjhpkikgajgdmaaFxS
import Derived.Test.YtjhpkikgajgdmaaTrI
namespace Go.Proofs.Ytjhpkikgajgdmaa.K
open Go.RowKit Go.Proofs.YtjhpkikgajgdmaaW.PrintWords Go.Proofs.YtjhpkikgajgdmaaW.PrintLast Go.Proofs.YtjhpkikgajgdmaaW.PrintMore
set_option linter.unusedVariables false
set_option linter.unusedSimpArgs false
attribute [local go_sem] Oper.semAt_some

theorem fk_kind {W : World} {ok : Nat → Prop} {n : Nd} {c : List Value} (h : Kd.FK k43 W ok n c) (k : Int) : Kd.FK k43 W ok { n with f0 := k } (c.take 0 ++ [.int .i64 k] ++ c.drop (0 + 1)) := by
  obtain ⟨Ak, ck, A3, c3, hce, hk1, hF1, hk3, hF3⟩ := k43_openF h
  rw [hce]
  exact k43_mkF W ok { n with f0 := k } hk1 hF1 hk3 hF3
def xsC (kd : Int) (n m : Nat) : List Nd := nd0 2 [] :: (List.replicate m (nd0 kd []) ++ List.replicate (n - m) (nd0 0 []))
section
variable {kd : Int} {n m : Nat}
theorem xsC_len (h : m ≤ n) : (xsC kd n m).length = n + 1 := by unfold xsC; simp; omega
theorem xsC_at (h : m < n) : (xsC kd n m)[m + 1]? = some (nd0 0 []) := by
  unfold xsC
  rw [List.getElem?_cons_succ, List.getElem?_append_right (by simp), List.length_replicate, Nat.sub_self, List.getElem?_replicate, if_pos (by omega)]
theorem xsC_set (h : m < n) : (xsC kd n m).set (m + 1) (nd0 kd []) = xsC kd n (m + 1) := by
  unfold xsC
  rw [List.set_cons_succ, List.set_append_right _ _ (by simp), List.length_replicate, Nat.sub_self, show n - m = (n - (m + 1)) + 1 by omega, List.replicate_succ, List.set_cons_zero]
  rw [List.replicate_succ' (n := m), List.append_assoc]
  rfl
theorem xsC_end {j : Nat} (h : j < n) : (xsC kd n n)[j + 1]? = some (nd0 kd []) := by
  unfold xsC
  rw [List.getElem?_cons_succ, List.getElem?_append_left (by simpa using h), List.getElem?_replicate, if_pos h]
end
/-- a page that is made: m kinds are set, v are the first node's kids -/
structure PgI (w W : World) (kd : Int) (n O cap m : Nat) (v : Value) (rows : List (List Value)) : Prop where
  nds : NdsI w W (fun _ => False) O cap (xsC kd n m) rows (some 0)
  r0 : rows[0]? = some (nv0 2 v)
section
variable {w W V : World} {kd : Int} {n O cap m : Nat} {v : Value} {rows : List (List Value)}
theorem PgI.step (h : PgI w W kd n O cap m v rows) (h0 : V.heap[O]? = W.heap[O]?) : PgI w V kd n O cap m v rows := ⟨h.nds.step h0 (fun _ hk => hk.elim) (fun _ hk _ => hk.elim), h.r0⟩
theorem PgI.at_ (h : PgI w W kd n O cap m v rows) : W.cell? ⟨O, 1, none⟩ = some v ∧ W.frozen? ⟨O, 1, none⟩ = false ∧ O < W.heap.size := by
  obtain ⟨c, hc, -, -, hcell, hfr⟩ := h.nds.cells (j := 0) (by unfold xsC; simp)
  rw [h.r0] at hc
  cases hc
  have h1 := hcell 1 v rfl
  have h2 := hfr 1
  rw [Nat.zero_mul, Nat.zero_add] at h1 h2
  exact ⟨h1, h2, h.nds.lt⟩
theorem PgI.put (h : PgI w W kd n O cap m v rows) {v1 : Value} (hv : v1.oneCell' = true) : ∃ rows', PgI w (W.setCell ⟨O, 1, none⟩ v1) kd n O cap m v1 rows' := by
  have hl : 0 < (xsC kd n m).length := by unfold xsC; simp
  have hp := h.nds.put (x' := nd0 2 []) hl h.r0 1 v1 (by decide) hv (fun k hk => hk.elim) (fun e => absurd rfl e)
  rw [Nat.zero_mul, Nat.zero_add] at hp
  refine ⟨_, ⟨hp, ?_⟩⟩
  rw [List.getElem?_set_self (by rw [h.nds.len]; exact hl)]
  rfl
theorem PgI.kind (h : PgI w W kd n O cap m v rows) (hm : m < n) : ((∃ u, W.cell? ⟨O, (m + 1) * 34, none⟩ = some u) ∧ W.frozen? ⟨O, (m + 1) * 34, none⟩ = false ∧ O < W.heap.size) ∧ ∃ rows', PgI w (W.setCell ⟨O, (m + 1) * 34, none⟩ (.int .i64 kd)) kd n O cap (m + 1) v rows' := by
  have hl : m + 1 < (xsC kd n m).length := by rw [xsC_len (by omega)]; omega
  obtain ⟨c, hc, hcl, -, hcell, hfr⟩ := h.nds.cells hl
  have hp := h.nds.put (x' := nd0 kd []) hl hc 0 (.int .i64 kd) (by decide) rfl (fun k hk => hk.elim) (fun _ => fk_kind (h.nds.elem (m + 1) (nd0 0 []) c (by simp) (xsC_at hm) hc) kd)
  rw [xsC_set hm] at hp
  refine ⟨⟨⟨_, hcell 0 _ (List.getElem?_eq_getElem (by omega))⟩, hfr 0, h.nds.lt⟩, _, ⟨hp, ?_⟩⟩
  rw [List.getElem?_set_ne (by omega)]
  exact h.r0
theorem PgI.page {ok : Nat → Prop} (h : PgI w W kd n O cap n v rows) (hk : Kd.R (Kd.int .i64) 3 W w.heap.size ok v (upK n)) : n + 1 ≤ cap ∧ Kd.C k43 W (some ⟨O, 0, none⟩) (n + 1) (pgC kd n) := by
  obtain ⟨h1, h2, h3⟩ := Kd.R_reads' h.nds.own
  obtain ⟨A, c, rfl, hle, hC⟩ := Kd.R_reads hk
  have hlen := h.nds.len
  rw [xsC_len (Nat.le_refl _)] at hlen
  have hc := c_of_raw (xs := pgC kd n) (by rw [hlen, pgC_len]) h3 (fun j x cs hx hcs => ?_)
  · rw [pgC_len] at hc
    exact ⟨by rw [xsC_len (Nat.le_refl _)] at h2; exact h2, hc⟩
  · cases j with
    | zero =>
      rw [h.r0] at hcs
      cases hcs; cases hx
      exact nv0_K hle hC
    | succ j =>
      have hj : j < n := by have := (List.getElem?_eq_some_iff.1 hx).1; rw [pgC_len] at this; omega
      rw [pgC_at hj] at hx
      cases hx
      exact Kd.FK_now (h.nds.elem (j + 1) _ cs (by simp) (xsC_end hj) hcs)
theorem PgI.init (hR : Kd.R (Kd.raw 34) 43 W w.heap.size (fun _ => True) (.slice (some ⟨O, 0, none⟩) (n + 1) cap) (List.replicate (n + 1) (nv0 0 (.slice none 0 0)))) :
    ((∃ u, W.cell? ⟨O, 0, none⟩ = some u) ∧ W.frozen? ⟨O, 0, none⟩ = false ∧ O < W.heap.size) ∧ ∃ rows, PgI w (W.setCell ⟨O, 0, none⟩ (.int .i64 2)) kd n O cap 0 (.slice none 0 0) rows := by
  have hN : NdsI w W (fun _ => False) O cap (List.replicate (n + 1) (nd0 0 [])) (List.replicate (n + 1) (nv0 0 (.slice none 0 0))) (some 0) := by
    refine ⟨?_, by simp, fun j x c hj hx hc => ?_⟩
    · rw [List.length_replicate]
      exact Kd.R_mono (Kd.raw_tight hR) (fun k hk => by simpa [Value.ownBlock] using hk)
    · have h1 := (List.getElem?_eq_some_iff.1 hx).2
      have h2 := (List.getElem?_eq_some_iff.1 hc).2
      rw [List.getElem_replicate] at h1 h2
      subst h1 h2
      exact fun W' _ => nv0_K0 W' 0
  have hl : 0 < (List.replicate (n + 1) (nd0 0 [])).length := by simp
  have hr : (List.replicate (n + 1) (nv0 0 (.slice none 0 0)))[0]? = some (nv0 0 (.slice none 0 0)) := by rw [List.getElem?_replicate, if_pos (by omega)]
  obtain ⟨c, hc, hcl, -, hcell, hfr⟩ := hN.cells hl
  rw [hr] at hc
  cases hc
  have hp := hN.put (x' := nd0 2 []) hl hr 0 (.int .i64 2) (by decide) rfl (fun k hk => hk.elim) (fun e => absurd rfl e)
  have h1 := hcell 0 _ rfl
  have h2 := hfr 0
  rw [Nat.zero_mul, Nat.zero_add] at h1 h2 hp
  refine ⟨⟨⟨_, h1⟩, h2, hN.lt⟩, _, ⟨hp, ?_⟩⟩
  rw [List.getElem?_set_self (by simp)]
  rfl
end
/-- two pages that are made -/
structure TwI (w W : World) (kA kB : Int) (n O1 c1 O2 c2 j1 j2 m1 m2 : Nat) (v1 v2 : Value) (r1 r2 : List (List Value)) : Prop where
  a : PgI w W kA n O1 c1 m1 v1 r1
  b : PgI w W kB n O2 c2 m2 v2 r2
  ka : Kd.R (Kd.int .i64) 3 W w.heap.size (fun k => some k ≠ v2.ownBlock) v1 (upK j1)
  kb : Kd.R (Kd.int .i64) 3 W w.heap.size (fun k => some k ≠ v1.ownBlock) v2 (upK j2)
  ne : O1 ≠ O2
  bl : Below w.heap.size w W
section
variable {w W w1 : World} {kA kB : Int} {n O1 c1 O2 c2 j1 j2 m1 m2 : Nat} {v1 v2 v : Value} {r1 r2 : List (List Value)}
theorem TwI.swap (h : TwI w W kA kB n O1 c1 O2 c2 j1 j2 m1 m2 v1 v2 r1 r2) : TwI w W kB kA n O2 c2 O1 c1 j2 j1 m2 m1 v2 v1 r2 r1 := ⟨h.b, h.a, h.kb, h.ka, h.ne.symm, h.bl⟩
theorem TwI.growA (h : TwI w W kA kB n O1 c1 O2 c2 j1 j2 m1 m2 v1 v2 r1 r2) (hg : W.grownBy w1 v1.ownBlock) (hk : Kd.R (Kd.int .i64) 3 w1 w.heap.size (fun k => some k ≠ v2.ownBlock) v (upK (j1 + 1))) (hat : v.ownBlock = v1.ownBlock ∨ ∃ b, v.ownBlock = some b ∧ W.heap.size ≤ b) (hb : Below w.heap.size w w1) :
    (w1.cell? ⟨O1, 1, none⟩ = some v1 ∧ w1.frozen? ⟨O1, 1, none⟩ = false ∧ O1 < w1.heap.size) ∧ ∃ r1', TwI w (w1.setCell ⟨O1, 1, none⟩ v) kA kB n O1 c1 O2 c2 (j1 + 1) j2 m1 m2 v v2 r1' r2 := by
  have n1 := int_not_nodes (e := 0) h.ka h.a.nds.blk
  have n2 := int_not_nodes (e := 0) h.ka h.b.nds.blk
  have a1 := h.a.step (hg.block O1 h.a.nds.lt n1)
  have b1 := h.b.step (hg.block O2 h.b.nds.lt n2)
  have kb1 : Kd.R (Kd.int .i64) 3 w1 w.heap.size (fun k => some k ≠ v.ownBlock) v2 (upK j2) := by
    refine Kd.R_mono (Kd.R_step (Kd.R_tight rfl h.kb) (fun k hk hlt => hg.block k hlt (h.kb.1 k hk.symm))) (fun k hk => ?_)
    rcases hat with e | ⟨b, e, hle⟩
    · rw [e]; exact h.kb.1 k hk.symm
    · rw [e]
      intro e2
      injection e2 with e2
      have := Kd.R_lt h.kb k hk.symm
      omega
  obtain ⟨y, f, l⟩ := a1.at_
  obtain ⟨A, c, rfl⟩ := Kd.R_slice hk
  obtain ⟨r1', a2⟩ := a1.put (v1 := .slice A (upK (j1 + 1)).length c) rfl
  have hOb := a1.nds.blk
  refine ⟨⟨y, f, l⟩, r1', a2, b1.step (Below.heap_setCell w1 ⟨O1, 1, none⟩ _ O2 (fun e => h.ne e.symm)), ?_, ?_, h.ne, hb.setCell (p := ⟨O1, 1, none⟩) h.a.nds.base _⟩
  · exact Kd.R_mono (Kd.R_far (p := ⟨O1, 1, none⟩) (Kd.R_types hk hOb.choose_spec (by decide)) (fun k hk => hk.2) _) (fun _ hk => hk.1)
  · exact Kd.R_mono (Kd.R_far (p := ⟨O1, 1, none⟩) (Kd.R_types kb1 hOb.choose_spec (by decide)) (fun k hk => hk.2) _) (fun _ hk => hk.1)
theorem TwI.kindA (h : TwI w W kA kB n O1 c1 O2 c2 j1 j2 m1 m2 v1 v2 r1 r2) (hm : m1 < n) :
    ((∃ u, W.cell? ⟨O1, (m1 + 1) * 34, none⟩ = some u) ∧ W.frozen? ⟨O1, (m1 + 1) * 34, none⟩ = false ∧ O1 < W.heap.size) ∧ ∃ r1', TwI w (W.setCell ⟨O1, (m1 + 1) * 34, none⟩ (.int .i64 kA)) kA kB n O1 c1 O2 c2 j1 j2 (m1 + 1) m2 v1 v2 r1' r2 := by
  obtain ⟨hf, r1', a2⟩ := h.a.kind hm
  have hOb := h.a.nds.blk
  refine ⟨hf, r1', a2, h.b.step (Below.heap_setCell W ⟨O1, (m1 + 1) * 34, none⟩ _ O2 (fun e => h.ne e.symm)), ?_, ?_, h.ne, h.bl.setCell (p := ⟨O1, (m1 + 1) * 34, none⟩) h.a.nds.base _⟩
  · exact Kd.R_mono (Kd.R_far (p := ⟨O1, (m1 + 1) * 34, none⟩) (Kd.R_types h.ka hOb.choose_spec (by decide)) (fun k hk => hk.2) _) (fun _ hk => hk.1)
  · exact Kd.R_mono (Kd.R_far (p := ⟨O1, (m1 + 1) * 34, none⟩) (Kd.R_types h.kb hOb.choose_spec (by decide)) (fun k hk => hk.2) _) (fun _ hk => hk.1)
end
theorem fixC_any {l a : List Nd} {N M : Nat} (hl : l.length = N) (ha : a.length = M) (hf : fixup_Fix.f l = some (a, 0)) (A : Option Addr) (c : Nat) (W : World) (hC : Kd.C k43 W A N l) (hc : N ≤ c) :
    Calls Try.prog 15 #[.slice A N c] W fun e w' => ∃ A1 c1, e = .returned (.tuple #[.slice A1 M c1, .int .i64 0]) ∧ M ≤ c1 ∧ Kd.C k43 w' A1 M a ∧ Below W.heap.size W w' := by
  subst hl ha
  refine (fixup_Fix.calls A c l a 0 W hC hc hf).mono ?_
  rintro e w' ⟨v, rfl, hv, hb⟩
  obtain ⟨A1, c1, rfl⟩ := Kd.V_slice hv
  obtain ⟨h1, h2⟩ := (Kd.V_reads' hv).2
  exact ⟨A1, c1, rfl, h1, h2, hb⟩
end Go.Proofs.Ytjhpkikgajgdmaa.K
namespace Go.Proofs.Ytjhpkikgajgdmaa.K
open Go.RowKit Go.Proofs.YtjhpkikgajgdmaaW.PrintWords Go.Proofs.YtjhpkikgajgdmaaW.PrintLast Go.Proofs.YtjhpkikgajgdmaaW.PrintMore
set_option linter.unusedVariables false
set_option linter.unusedSimpArgs false
attribute [local go_sem] Oper.semAt_some

theorem TwI.init {w W : World} {kA kB : Int} {n O1 c1 O2 c2 : Nat} (hA : Kd.R (Kd.raw 34) 43 W w.heap.size (fun _ => True) (.slice (some ⟨O1, 0, none⟩) (n + 1) c1) (List.replicate (n + 1) (nv0 0 (.slice none 0 0))))
    (hB : Kd.R (Kd.raw 34) 43 W w.heap.size (fun _ => True) (.slice (some ⟨O2, 0, none⟩) (n + 1) c2) (List.replicate (n + 1) (nv0 0 (.slice none 0 0)))) (hne : O1 ≠ O2) (hb : Below w.heap.size w W) :
    ((∃ u, W.cell? ⟨O1, 0, none⟩ = some u) ∧ W.frozen? ⟨O1, 0, none⟩ = false ∧ O1 < W.heap.size) ∧
    ((∃ u, (W.setCell ⟨O1, 0, none⟩ (.int .i64 2)).cell? ⟨O2, 0, none⟩ = some u) ∧ (W.setCell ⟨O1, 0, none⟩ (.int .i64 2)).frozen? ⟨O2, 0, none⟩ = false ∧ O2 < (W.setCell ⟨O1, 0, none⟩ (.int .i64 2)).heap.size) ∧
    ∃ r1 r2, TwI w ((W.setCell ⟨O1, 0, none⟩ (.int .i64 2)).setCell ⟨O2, 0, none⟩ (.int .i64 2)) kA kB n O1 c1 O2 c2 0 0 0 0 (.slice none 0 0) (.slice none 0 0) r1 r2 := by
  obtain ⟨hf1, r1, h1⟩ := PgI.init (kd := kA) hA
  have hB' : Kd.R (Kd.raw 34) 43 (W.setCell ⟨O1, 0, none⟩ (.int .i64 2)) w.heap.size (fun _ => True) (.slice (some ⟨O2, 0, none⟩) (n + 1) c2) (List.replicate (n + 1) (nv0 0 (.slice none 0 0))) :=
    Kd.R_mono (Kd.R_step (Kd.raw_tight hB) (fun k hk _ => Below.heap_setCell W ⟨O1, 0, none⟩ _ k (fun e => by
      have e2 : k = O2 := by simpa [Value.ownBlock] using hk
      have e3 : k = O1 := e
      omega))) (fun _ _ => trivial)
  obtain ⟨hf2, r2, h2⟩ := PgI.init (kd := kB) hB'
  have hb1 : w.heap.size ≤ O1 := h1.nds.base
  have hb2 : w.heap.size ≤ O2 := h2.nds.base
  exact ⟨hf1, hf2, r1, r2, h1.step (Below.heap_setCell _ ⟨O2, 0, none⟩ _ O1 (fun e => hne e)), h2, Kd.R_nil _ _ _ _ _, Kd.R_nil _ _ _ _ _, hne, (hb.setCell (p := ⟨O1, 0, none⟩) hb1 _).setCell (p := ⟨O2, 0, none⟩) hb2 _⟩
theorem node_at {w : World} {A : Option Addr} {n : Nat} {xs : List Nd} (h : Kd.C k43 w A n xs) {j : Nat} {x : Nd} (hx : xs[j]? = some x) : ∃ ad Ak ck, A = some ad ∧ w.cell? (ad.add (j * 34)) = some (.int .i64 x.f0) ∧ w.cell? ⟨(ad.add (j * 34)).block, (ad.add (j * 34)).off + 1, none⟩ = some (.slice Ak x.f1.length ck) ∧ x.f1.length ≤ ck ∧ Kd.C (Kd.int .i64) w Ak x.f1.length x.f1 := by
  obtain rfl := h.1
  have hj := (List.getElem?_eq_some_iff.1 hx).1
  obtain ⟨ad, hA, hcl⟩ := h.2.2 (by omega)
  obtain ⟨c, hl, hK, hcell⟩ := hcl j x hx
  obtain ⟨A1, c1, A31, c31, hn⟩ := nodeC_of hK
  have hg : ∀ q u, c[q]? = some u → w.cell? (ad.add (j * 34 + q)) = some u := hcell
  exact ⟨ad, A1, c1, hA, hg 0 _ hn.k0, by rw [← add_field _ _ 1 (by omega)]; exact hg 1 _ hn.k1, hn.l1, hn.w1⟩
theorem zN_one : ∀ u ∈ zN.toList, u.oneCell' = true := List.all_eq_true.1 (by rfl)

def purflinglaw05_FixupCells.f (a0 : Int) : Option Bool := some true
theorem pure_FixupCells {P : Prop} : ∀ a0 : Int, P → purflinglaw05_FixupCells.f a0 = some true := fun _ _ => rfl
set_option maxRecDepth 100000 in
set_option maxHeartbeats 8000000 in
theorem purflinglaw05_FixupCells.calls (a0 : Int) (r : Bool) (w : World) (h : purflinglaw05_FixupCells.f a0 = some r) :
    Calls Try.prog 6 #[.int .i64 a0] w fun e w' => e = .returned (.bool r) ∧ Below w.heap.size w w' := by
  obtain rfl : true = r := Option.some.inj h
  clear h
  have HSH := Lib.hid (fun W => purflinglaw05_shown.calls true W rfl)
  by_cases q0 : a0 < 1
  focus
    have hd0 : decide (a0 < 1) = true := decide_eq_true q0
    clear q0
    go_enter Try.func6, Try.ntmps6
    go_wp2_with (go_at_call 10; refine (HSH.out _).mono ?_; rintro e w1 ⟨rfl, hb⟩; have HB := Lib.hid hb; clear hb HSH)
    go_ret
    exact ⟨rfl, HB.out⟩
  have hd0 : decide (a0 < 1) = false := decide_eq_false q0
  by_cases q1 : 100 < a0
  focus
    have hd1 : decide (100 < a0) = true := decide_eq_true q1
    clear q0 q1
    go_enter Try.func6, Try.ntmps6
    go_wp2_with (go_at_call 10; refine (HSH.out _).mono ?_; rintro e w1 ⟨rfl, hb⟩; have HB := Lib.hid hb; clear hb HSH)
    go_ret
    exact ⟨rfl, HB.out⟩
  have hd1 : decide (100 < a0) = false := decide_eq_false q1
  obtain ⟨n, rfl⟩ := Int.eq_ofNat_of_zero_le (show 0 ≤ a0 by omega)
  have hn1 : 1 ≤ n := by omega
  have hn2 : n ≤ 100 := by omega
  clear q0 q1
  go_enter Try.func6, Try.ntmps6
  go_upto_region 5 with (first
    | (go_at_call 10; refine (HSH.out _).mono ?_; rintro e w1 ⟨rfl, hb⟩; have HB := Lib.hid hb; clear hb HSH)
    | (refine Kd.R_make (Kd.raw 34) (w0 := w) w.heap.size 43 rfl rfl 25 (.tmp 20) (.tmp 20) rfl ((n : Int) + 1) rfl rfl Try.underlying25 (.agg zN) 288 info43 rfl (by decide) (by decide) (nv0 0 (.slice none 0 0)) (ok := fun _ => True) (okp := fun _ => False) ⟨rfl, rfl, zN_one⟩ (fun _ hk => hk.elim) trivial (by omega) (by omega) HB.out HB.out.size ?_; intro v2 w2 ho2 hb2 hg2 hat2; have HR2 := Lib.hid ho2; have HB2 := Lib.hid hb2; clear ho2 hb2 hg2 hat2 HB))
  have htn : ((n : Int) + 1).toNat = n + 1 := by omega
  have hR2 := HR2.out
  rw [htn] at hR2
  obtain ⟨O1, c1, hv, hO1, hO1', -⟩ := Kd.R_form hR2 (by simp)
  rw [List.length_replicate] at hv
  subst hv
  have HA2 := Lib.hid hR2
  clear hR2 HR2
  go_upto_region 6 with (refine Kd.R_make (Kd.raw 34) (w0 := w) w.heap.size 43 rfl rfl 25 (.tmp 23) (.tmp 23) rfl ((n : Int) + 1) rfl rfl Try.underlying25 (.agg zN) 288 info43 rfl (by decide) (by decide) (nv0 0 (.slice none 0 0)) (ok := fun _ => True) (okp := fun _ => False) ⟨rfl, rfl, zN_one⟩ (fun _ hk => hk.elim) trivial (by omega) (by omega) HB2.out HB2.out.size ?_; intro v3 w3 ho3 hb3 hg3 hat3; have HR3 := Lib.hid ho3; have HB3 := Lib.hid hb3; have HA3 := Lib.hid (Kd.R_mono (Kd.R_step (Kd.raw_tight HA2.out) (fun k _ hlt => hg3.block k hlt (by simp))) (fun _ _ => trivial) : Kd.R (Kd.raw 34) 43 w3 w.heap.size (fun _ => True) _ _); have HO3 := Lib.hid hat3; clear ho3 hb3 hg3 hat3 HB2 HA2)
  have hR3 := HR3.out
  rw [htn] at hR3
  obtain ⟨O2, c2, hv, hO2, hO2', -⟩ := Kd.R_form hR3 (by simp)
  rw [List.length_replicate] at hv
  subst hv
  have hne : O1 ≠ O2 := by
    obtain ⟨b, hb, hle⟩ := HO3.out
    have e : O2 = b := by simpa [Value.ownBlock] using hb
    omega
  obtain ⟨⟨⟨u1, hu1⟩, hf1, hl1⟩, ⟨⟨u2, hu2⟩, hf2, hl2⟩, r1, r2, hT⟩ := TwI.init (kA := 10) (kB := 1) HA3.out hR3 hne HB3.out
  have HT := Lib.hid hT
  clear hR3 HR3 hT HA3 HB3 HO3
  go_upto_region 8 with fail
  clear hu1 hf1 hl1 hu2 hf2 hl2
  generalize (w3.setCell ⟨O1, 0, none⟩ (.int .i64 2)).setCell ⟨O2, 0, none⟩ (.int .i64 2) = W0 at HT ⊢
  go_wp2
  go_loopw [6] (fun v6 wr => ∃ j i : Nat, i = j + 1 ∧ j ≤ n ∧ v6 = .int .i64 (i : Int) ∧ Aside0 (∃ v1 v2 r1 r2, TwI w wr 10 1 n O1 c1 O2 c2 j j j j v1 v2 r1 r2)) (fun v6 _ => n + 1 - (intOf v6).toNat)
  case atStart => exact ⟨0, 1, rfl, Nat.zero_le _, rfl, ⟨_, _, _, _, HT.out⟩⟩
  case round =>
    clear HT
    obtain ⟨j, i, hji, hj, rfl, HR⟩ := hrel
    obtain ⟨v1, v2, r1, r2, hT⟩ := HR.out
    by_cases hlt : j < n
    · have hile : (i : Int) ≤ (n : Int) := by omega
      have hil : (i : Int) < (n : Int) + 1 := by omega
      have hin : i < n + 1 := by omega
      have hn0 : (0 : Int) < (n : Int) + 1 := by omega
      obtain ⟨y1, f1, l1⟩ := hT.a.at_
      have HU := Lib.hid (show upK (j + 1) = upK j ++ [(i : Int)] by rw [upK_next, hji])
      have hul : (upK j).length ≤ 100 := by rw [upK_len]; omega
      have HT := Lib.hid hT
      have HJI := Lib.hid hji
      clear hT HR hji
      go_upto_region 12 with ((with_reducible refine gate_builtin (b := .append) (xs := #[.tmp 40, .tmp 42]) rfl ?_); at_builtin; refine Kd.R_append (Kd.int .i64) (w0 := w) (W := wr) w.heap.size rfl (.tmp 40) (.tmp 42) 30 3 (.int .i64 0) 8 rfl Try.underlying30 info3 rfl (by decide) (by omega) v1 (upK j) (i : Int) [.int .i64 (i : Int)] (fun k => some k ≠ v2.ownBlock) (fun _ => False) rfl rfl rfl (fun _ hk => hk.elim) (fun k hk e => by have := Kd.R_lt HT.out.kb k e.symm; omega) HT.out.ka HT.out.bl HT.out.bl.size (by omega) ?_; intro v3 w3 ho3 hb3 hg3 hat3; rw [← HU.out] at ho3; obtain ⟨E3, e3, hv3⟩ := Kd.R_slice ho3; rw [upK_len] at hv3; subst hv3; obtain ⟨⟨y3, f3, l3⟩, r3, hT3⟩ := HT.out.growA hg3 ho3 hat3 hb3; have HT3 := Lib.hid hT3; clear ho3 hb3 hg3 hat3 hT3 HT y1 f1 l1)
      try clear y3
      try clear f3
      try clear l3
      generalize w3.setCell _ _ = W3 at HT3 ⊢
      obtain ⟨y1, f1, l1⟩ := HT3.out.b.at_
      go_upto_region 13 with ((with_reducible refine gate_builtin (b := .append) (xs := #[.tmp 50, .tmp 52]) rfl ?_); at_builtin; refine Kd.R_append (Kd.int .i64) (w0 := w) (W := W3) w.heap.size rfl (.tmp 50) (.tmp 52) 30 3 (.int .i64 0) 8 rfl Try.underlying30 info3 rfl (by decide) (by omega) v2 (upK j) (i : Int) [.int .i64 (i : Int)] (fun k => some k ≠ (Value.slice E3 (j + 1) e3).ownBlock) (fun _ => False) rfl rfl rfl (fun _ hk => hk.elim) (fun k hk e => by have := Kd.R_lt HT3.out.ka k e.symm; omega) HT3.out.kb HT3.out.bl HT3.out.bl.size (by omega) ?_; intro v4 w4 ho4 hb4 hg4 hat4; rw [← HU.out] at ho4; obtain ⟨E4, e4, hv4⟩ := Kd.R_slice ho4; rw [upK_len] at hv4; subst hv4; obtain ⟨⟨y3, f3, l3⟩, r4, hT4⟩ := HT3.out.swap.growA hg4 ho4 hat4 hb4; have HT4 := Lib.hid hT4; clear ho4 hb4 hg4 hat4 hT4 HT3 y1 f1 l1)
      try clear y3
      try clear f3
      try clear l3
      generalize w4.setCell _ _ = W4 at HT4 ⊢
      obtain ⟨⟨⟨u5, hu5⟩, hf5, hl5⟩, r5, hT5⟩ := HT4.out.swap.kindA hlt
      rw [show (j + 1) * 34 = i * 34 by rw [HJI.out]] at hu5 hf5 hT5
      have HT5 := Lib.hid hT5
      clear hT5 HT4
      go_upto_region 14 with fail
      try clear hu5
      try clear hf5
      try clear hl5
      generalize W4.setCell _ _ = W5 at HT5 ⊢
      obtain ⟨⟨⟨u6, hu6⟩, hf6, hl6⟩, r6, hT6⟩ := HT5.out.swap.kindA hlt
      rw [show (j + 1) * 34 = i * 34 by rw [HJI.out]] at hu6 hf6 hT6
      have HT6 := Lib.hid hT6
      clear hT6 HT5
      go_wp2
      go_roundw
      case rel => exact ⟨j + 1, i + 1, by have := HJI.out; omega, by omega, by go_num, ⟨_, _, _, _, HT6.out.swap⟩⟩
      case measure => have := HJI.out; simp [intOf]; omega
    · obtain rfl : j = n := by omega
      have hile : ¬ (i : Int) ≤ (j : Int) := by omega
      have hda : decide ((i : Int) ≤ (j : Int)) = false := decide_eq_false hile
      have hp1 := hT.a.page hT.ka
      have hp2 := hT.b.page hT.kb
      have HB := Lib.hid hT.bl
      have HF1 := Lib.hid (fixC_any (l := pgC 10 j) (a := onceC 10 j) (N := j + 1) (M := j + 2) pgC_len onceC_len (by rw [pgC_fix hn1 hn2 rfl, fix_cells hn1]) (some ⟨O1, 0, none⟩) c1 wr hp1.2 hp1.1)
      have HF2 := Lib.hid (fun W (hb : Below wr.heap.size wr W) => fixC_any (l := pgC 1 j) (a := twiceC j) (N := j + 1) (M := j + 3) pgC_len twiceC_len (by rw [pgC_fix hn1 hn2 rfl, fix_texts hn1]) (some ⟨O2, 0, none⟩) c2 W (Kd.C_below hp2.2 hb) hp2.1)
      clear hp1 hp2 hT HR
      have e2 : (((j + 2 : Nat) : Int) != (j : Int) + 2) = false := by simp
      have e3 : (((j + 3 : Nat) : Int) != (j : Int) + 3) = false := by simp
      go_upto_region 19 with (first
        | (go_at_call 15; (with_reducible refine HF1.out.mono ?_); rintro e w5 ⟨A5, c5, rfl, hl5, hC5, hb5⟩; have HB5 := Lib.hid hb5; have HC5 := Lib.hid hC5; clear hl5 hC5 hb5 HF1)
        | (go_at_call 15; (with_reducible refine (HF2.out _ HB5.out).mono ?_); rintro e w6 ⟨A6, c6, rfl, hl6, hC6, hb6⟩; have HC6 := Lib.hid hC6; have HD6 := Lib.hid (Kd.C_below HC5.out hb6); have HB6 := Lib.hid (below_then HB.out HB.out.size (HB5.out.trans (hb6.mono HB5.out.size))); clear hl6 hC6 hb6 HF2 HC5 HB5 HB))
      obtain ⟨ad, Ak, ck, rfl, a0, a1, -, -⟩ := node_at HD6.out onceC_last
      obtain ⟨bd, Bk, dk, rfl, b0, b1, hdk, hBk⟩ := node_at HC6.out twiceC_row
      obtain ⟨bd', Ck, gk, e, g0, g1, -, -⟩ := node_at HC6.out twiceC_cell
      injection e with e
      subst e
      have hk1 : (wrapN 2 (upK j)).f1.length = j := upK_len j
      have hk2 : (wrapN 9 (upK j)).f1.length = j := upK_len j
      rw [hk1] at a1
      rw [hk2] at g1
      have HBk := Lib.hid hBk
      have HDk := Lib.hid hdk
      replace a0 : w6.cell? (ad.add ((j + 1) * 34)) = some (.int .i64 9) := a0
      replace b0 : w6.cell? (bd.add ((j + 1) * 34)) = some (.int .i64 9) := b0
      replace g0 : w6.cell? (bd.add ((j + 2) * 34)) = some (.int .i64 10) := g0
      replace b1 : w6.cell? ⟨(bd.add ((j + 1) * 34)).block, (bd.add ((j + 1) * 34)).off + 1, none⟩ = some (.slice Bk 1 dk) := b1
      have HI : Hid (∀ W, Kd.C (Kd.int .i64) W Bk 1 [(j : Int) + 2] → Calls Try.prog 17 #[.slice Bk 1 dk, .slice (some ⟨W.heap.size, 0, none⟩) 1 1] (W.alloc (.cells #[.int .i64 ((j : Int) + 2)] 3)) fun e w' => e = .returned (.bool true) ∧ Below W.heap.size W w') := Lib.hid (fun W hr => by
        have hb := c_ints (W := W.alloc (.cells #[.int .i64 ((j : Int) + 2)] 3)) (World.alloc_heap_new W _) (xs := [(j : Int) + 2]) rfl (by simp)
        exact (ints_same (n := 1) (xs := [(j : Int) + 2]) rfl (by decide) Bk dk _ 1 _ (Kd.C_alloc hr _) HDk.out hb (Nat.le_refl _)).mono (fun e w' h => ⟨h.1, ((Below.refl W.heap.size W).alloc (Nat.le_refl _) _).trans (h.2.mono (by simp))⟩))
      have hz1 : ((j : Int) + 1).toNat = j + 1 := by omega
      have hz2 : ((j : Int) + 2).toNat = j + 2 := by omega
      have hltg : (bd.add ((j + 2) * 34)).block < w6.heap.size := World.block_lt_of_cell? w6 (bd.add ((j + 2) * 34)) g0
      clear hBk hdk hk1 hk2 HC6 HD6
      go_wp2_with ((try (refine gate_guard (by rfl) ?_; dsimp only)); go_at_call 17; (with_reducible refine (HI.out _ HBk.out).mono ?_); rintro e w7 ⟨rfl, hb⟩; have HB7 := Lib.hid (below_then HB6.out HB6.out.size hb); have k0 := (hb.cell (p := bd.add ((j + 2) * 34)) hltg).trans g0; have k1 := (hb.cell (p := ⟨(bd.add ((j + 2) * 34)).block, (bd.add ((j + 2) * 34)).off + 1, none⟩) hltg).trans g1; clear hb HB6 HBk HI a0 a1 b0 b1 g0 g1)
      go_ret
      exact ⟨rfl, HB7.out⟩
end Go.Proofs.Ytjhpkikgajgdmaa.K
