/- Layer 7, plain: how places came to be; who has a slot. -/
import Derived.Test.YtfoocmmjefdojaaSlots
import Derived.Test.YtfoocmmjefdojaaEv
namespace Go.Proofs.Ytfoocmmjefdojaa.Pure
set_option linter.unusedVariables false
set_option linter.unusedSimpArgs false
open Go.RowKit Go.Proofs.Ytfoocmmjefdojaa.K Go.Proofs.YtfoocmmjefdojaaW.PrintWords Go.Proofs.YtfoocmmjefdojaaW.PrintLast Go.Proofs.YtfoocmmjefdojaaW.PrintMore

/-- what holds of place i, laid for cell x behind the places ps; from_: the column from which on it was sought -/
structure PFact (ends : List Int) (ps : List Pl) (p : Pl) (x : Nat × Sp) (from_ : Int) : Prop where
  node : p.f0 = x.2.f0
  row : p.f1 = x.1
  high : 1 ≤ p.f3 ∧ p.f1 + p.f3 ≤ ends.getD x.1 0
  high1 : x.2.f2 = 1 → p.f3 = 1
  wide : 1 ≤ p.f4 ∧ p.f4 ≤ x.2.f1
  fr : 0 ≤ from_ ∧ from_ ≤ p.f2
  before : ∀ c, from_ ≤ c → c < p.f2 → takenT ps (p.f1, c) = true
  free : ∀ a : Int × Int, inP a p = true → takenT ps a = false
  rows : ∀ q ∈ ps, q.f1 ≤ p.f1 ∧ (q.f1 = p.f1 → q.f2 + q.f4 ≤ from_)
/-- the column behind the last place, if that is of the row -/
def fromOf (ps : List Pl) (r : Int) : Int := match ps.getLast? with | some q => if q.f1 = r then q.f2 + q.f4 else 0 | none => 0
structure HistI (ends : List Int) (pre : List (Nat × Sp)) (s : LSt) : Prop where
  len : s.ps.length = pre.length
  each : ∀ (i : Nat) (p : Pl), s.ps[i]? = some p → ∃ x, pre[i]? = some x ∧ PFact ends (s.ps.take i) p x (fromOf (s.ps.take i) p.f1) ∧ p.f2 + p.f4 ≤ s.most
  mono : ∀ p ∈ s.ps, p.f1 ≤ s.at_ ∧ (p.f1 = s.at_ → p.f2 + p.f4 ≤ s.col)
  last : ∀ r : Int, s.at_ ≤ r → fromOf s.ps r = if r = s.at_ then s.col else 0
  top : s.most = 0 ∨ ∃ p ∈ s.ps, p.f2 + p.f4 = s.most
  at0 : 0 ≤ s.at_
theorem HistI.init (ends : List Int) : HistI ends [] ⟨[], 0, 0, 0⟩ :=
  ⟨rfl, fun i p h => by simp at h, fun p h => (nomatch h), fun r h => by unfold fromOf; simp, .inl rfl, Int.le_refl _⟩
theorem inP_iff (a : Int × Int) (p : Pl) : inP a p = true ↔ p.f1 ≤ a.1 ∧ a.1 < p.f1 + p.f3 ∧ p.f2 ≤ a.2 ∧ a.2 < p.f2 + p.f4 := by unfold inP; exact decide_eq_true_iff
theorem taken_iff (ps : List Pl) (a : Int × Int) : takenT ps a = true ↔ ∃ q ∈ ps, inP a q = true := by unfold takenT; exact List.any_eq_true
theorem fromOf_snoc (ps : List Pl) (p : Pl) (r : Int) : fromOf (ps ++ [p]) r = if p.f1 = r then p.f2 + p.f4 else 0 := by unfold fromOf; rw [List.getLast?_concat]
theorem HistI.step {ends : List Int} {pre : List (Nat × Sp)} {s : LSt} (h : HistI ends pre s) (hb : BdS s) (hm : s.most ≤ 10000) {x : Nat × Sp} {e : Int} (he : ends[x.1]? = some e) (he1 : (x.1 : Int) + 1 ≤ e) (hc1 : 1 ≤ x.2.f1 ∧ x.2.f1 ≤ 1000) (hc2 : 0 ≤ x.2.f2)
    (hr : s.at_ ≤ x.1) : HistI ends (pre ++ [x]) (stepP ends s x) := by
  obtain ⟨r, c⟩ := x
  dsimp only at he he1 hc1 hc2 hr
  have hed : ends.getD r 0 = e := by rw [List.getD_eq_getElem?_getD, he]; rfl
  have hfr : (if (r : Int) = s.at_ then s.col else 0) = fromOf s.ps r := (h.last r hr).symm
  have hf0 : 0 ≤ fromOf s.ps r ∧ fromOf s.ps r ≤ s.most := by
    rw [← hfr]
    have h0 := hb.c0
    have h1 := hb.cm
    split <;> omega
  have hpl := place_ok (r := r) (end_ := e) (c := c) hb.inb hm hf0.1 hf0.2 hc1
  obtain ⟨p, hp⟩ : ∃ p, p = placeP s.ps e r (fromOf s.ps r) c := ⟨_, rfl⟩
  rw [← hp] at hpl
  have hs : stepP ends s (r, c) = ⟨s.ps ++ [p], r, p.f2 + p.f4, max s.most (p.f2 + p.f4)⟩ := by
    unfold stepP; dsimp only; rw [hed, hfr, ← hp]
  have p0 : p.f0 = c.f0 := by rw [hp]; rfl
  have p1 : p.f1 = r := by rw [hp]; rfl
  have p3 : p.f3 = if c.f2 > 0 then min c.f2 (e - r) else e - r := by rw [hp]; rfl
  have hh : 1 ≤ p.f3 ∧ p.f1 + p.f3 ≤ e := by rw [p3, p1]; split <;> omega
  have hrows : ∀ q ∈ s.ps, q.f1 ≤ p.f1 ∧ (q.f1 = p.f1 → q.f2 + q.f4 ≤ fromOf s.ps r) := fun q hq => by
    have h1 := h.mono q hq
    rw [p1]
    refine ⟨by omega, fun e1 => ?_⟩
    rw [← hfr, if_pos (by omega)]
    exact h1.2 (by omega)
  have hrowfree : ∀ y, p.f2 ≤ y → y < p.f2 + p.f4 → takenT s.ps (p.f1, y) = false := fun y h1 h2 => by
    rw [p1]
    by_cases e0 : y = p.f2
    · rw [e0]; exact hpl.t2
    · have := hpl.t3 (y - p.f2) (by omega) (by omega)
      rwa [show p.f2 + (y - p.f2) = y by omega] at this
  have hfree : ∀ a : Int × Int, inP a p = true → takenT s.ps a = false := fun a ha => by
    rw [inP_iff] at ha
    cases ht : takenT s.ps a with
    | false => rfl
    | true =>
      obtain ⟨q, hq, hi⟩ := (taken_iff _ _).1 ht
      rw [inP_iff] at hi
      have h1 := hrows q hq
      have h2 := hrowfree a.2 ha.2.2.1 ha.2.2.2
      have h3 : takenT s.ps (p.f1, a.2) = true := (taken_iff _ _).2 ⟨q, hq, (inP_iff _ _).2 ⟨h1.1, by omega, hi.2.2.1, hi.2.2.2⟩⟩
      rw [h2] at h3; cases h3
  have hfact : PFact ends s.ps p (r, c) (fromOf s.ps p.f1) := by
    rw [p1]
    refine ⟨p0, p1, ⟨hh.1, by rw [hed]; exact hh.2⟩, fun h1 => by rw [p3]; dsimp only at h1; rw [h1, if_pos (by decide)]; omega, ⟨hpl.n0, by rcases hpl.n1 with h1 | h1 <;> dsimp only <;> omega⟩, ⟨hf0.1, hpl.q0⟩, fun y h1 h2 => by rw [p1]; exact hpl.t1 y h1 h2, hfree, hrows⟩
  rw [hs]
  refine ⟨by simp [h.len], fun i q hq => ?_, fun q hq => ?_, fun r' hr' => ?_, ?_, by dsimp only; omega⟩
  · dsimp only at hq ⊢
    by_cases hi : i < s.ps.length
    · rw [List.getElem?_append_left hi] at hq
      obtain ⟨y, hy, hf, hmo⟩ := h.each i q hq
      refine ⟨y, by rw [List.getElem?_append_left (by rw [← h.len]; exact hi)]; exact hy, ?_, by omega⟩
      rw [List.take_append_of_le_length (by omega)]
      exact hf
    · have hil : i = s.ps.length := by
        have := (List.getElem?_eq_some_iff.1 hq).1
        rw [List.length_append, List.length_singleton] at this; omega
      subst hil
      rw [List.getElem?_append_right (Nat.le_refl _), Nat.sub_self] at hq
      cases hq
      refine ⟨(r, c), by rw [h.len, List.getElem?_append_right (Nat.le_refl _), Nat.sub_self]; rfl, ?_, by omega⟩
      rw [List.take_append_of_le_length (Nat.le_refl _), List.take_length]
      exact hfact
  · dsimp only at hq ⊢
    rcases List.mem_append.1 hq with h1 | h1
    · have h2 := hrows q h1
      rw [p1] at h2
      exact ⟨h2.1, fun e1 => by have := h2.2 e1; have := hpl.q0; have := hpl.n0; omega⟩
    · rw [List.mem_singleton.1 h1]
      exact ⟨by omega, fun _ => Int.le_refl _⟩
  · dsimp only at hr' ⊢
    rw [fromOf_snoc, p1]
    by_cases e1 : (r : Int) = r'
    · rw [if_pos e1, if_pos e1.symm]
    · rw [if_neg e1, if_neg (fun e2 => e1 e2.symm)]
  · dsimp only
    right
    have hn := hpl.n0
    have hq := hpl.q0
    by_cases e1 : s.most ≤ p.f2 + p.f4
    · exact ⟨p, by simp, by omega⟩
    · rcases h.top with h1 | ⟨q, hq', h1⟩
      · omega
      · exact ⟨q, by simp [hq'], by omega⟩
theorem run_hist {rows : List (List Sp)} {ends : List Int} (hR : gridRightB rows ends = true) : ∀ (xs pre : List (Nat × Sp)) (s : LSt), cellsFrom 0 rows = pre ++ xs → (∀ x ∈ xs, s.at_ ≤ (x.1 : Int)) → xs.Pairwise (fun a b => a.1 ≤ b.1) → HistI ends pre s → BdS s → s.most ≤ 10000 → (runP ends xs s).most ≤ 10000 → HistI ends (cellsFrom 0 rows) (runP ends xs s) ∧ BdS (runP ends xs s)
  | [], pre, s, hx, _, _, h, hb, hm, _ => by
    rw [List.append_nil] at hx
    unfold runP; rw [hx]; exact ⟨h, hb⟩
  | x :: xs, pre, s, hx, ha, hpw, h, hb, hm, hr => by
    obtain ⟨e, he, he1, he2, hc1, hc2⟩ := right_end hR (x := x) (by rw [hx]; simp)
    have h1 := h.step hb hm he he1 hc1 hc2.1 (ha x (List.mem_cons_self ..))
    have h2 := step_bd (ends := ends) hb hm hc1
    unfold runP at hr ⊢
    by_cases hbig : (stepP ends s x).most > 10000
    · rw [if_pos hbig] at hr; omega
    · rw [if_neg hbig] at hr ⊢
      rw [List.pairwise_cons] at hpw
      exact run_hist hR xs (pre ++ [x]) (stepP ends s x) (by rw [hx]; simp) (fun y hy => by show ((x.1 : Int)) ≤ y.1; have := hpw.1 y hy; omega) hpw.2 h1 h2 (by omega) hr
theorem cells_pairwise {α : Type} : ∀ (rows : List (List α)) (r : Nat), (cellsFrom r rows).Pairwise (fun a b => a.1 ≤ b.1)
  | [], r => List.Pairwise.nil
  | row :: rows, r => by
    unfold cellsFrom
    rw [List.pairwise_append]
    refine ⟨?_, cells_pairwise rows (r + 1), fun a ha b hb => ?_⟩
    · rw [List.pairwise_map]
      exact List.pairwise_of_forall (fun _ _ => Nat.le_refl _)
    · obtain ⟨c, _, rfl⟩ := List.mem_map.1 ha
      have := mem_cells_ge rows (r + 1) b hb
      dsimp only; omega
where mem_cells_ge {α : Type} : ∀ (rows : List (List α)) (r0 : Nat) (x : Nat × α), x ∈ cellsFrom r0 rows → r0 ≤ x.1
  | [], r0, x, h => by simp [cellsFrom] at h
  | y :: ys, r0, x, h => by
    unfold cellsFrom at h
    rcases List.mem_append.1 h with h | h
    · obtain ⟨c, hc, rfl⟩ := List.mem_map.1 h
      simp
    · have := mem_cells_ge ys (r0 + 1) x h
      omega
/-- the whole run's history -/
theorem lay_hist {rows : List (List Sp)} {ends : List Int} (hR : gridRightB rows ends = true) (hm : (runP ends (cellsFrom 0 rows) ⟨[], 0, 0, 0⟩).most ≤ 10000) : HistI ends (cellsFrom 0 rows) (runP ends (cellsFrom 0 rows) ⟨[], 0, 0, 0⟩) ∧ BdS (runP ends (cellsFrom 0 rows) ⟨[], 0, 0, 0⟩) :=
  run_hist hR (cellsFrom 0 rows) [] ⟨[], 0, 0, 0⟩ rfl (fun x _ => by dsimp only; omega) (cells_pairwise rows 0) (HistI.init ends) BdS.init (by decide) hm

/-! ### who has a slot -/
theorem slots_mem {nr nc a b : Nat} (ha : a < nr) (hb : b < nc) : (a, b) ∈ slotsOf nr nc := by
  unfold slotsOf
  have key : ∀ (n r : Nat), r ≤ a → a < r + n → (a, b) ∈ cellsFrom r (List.replicate n (List.range nc)) := by
    intro n
    induction n with
    | zero => intro r h1 h2; omega
    | succ n ih =>
      intro r h1 h2
      rw [List.replicate_succ]
      unfold cellsFrom
      by_cases e : r = a
      · subst e
        exact List.mem_append_left _ (List.mem_map.2 ⟨b, List.mem_range.2 hb, rfl⟩)
      · exact List.mem_append_right _ (ih (r + 1) (by omega) (by omega))
  exact key nr 0 (Nat.zero_le _) (by omega)
theorem slots_nodup (nr nc : Nat) : (slotsOf nr nc).Nodup := by
  unfold slotsOf
  have key : ∀ (n r : Nat), (cellsFrom r (List.replicate n (List.range nc))).Nodup := by
    intro n
    induction n with
    | zero => intro r; simp [cellsFrom]
    | succ n ih =>
      intro r
      rw [List.replicate_succ]
      unfold cellsFrom
      rw [List.nodup_append]
      refine ⟨?_, ih (r + 1), fun a ha b hb e => ?_⟩
      · refine List.Pairwise.map _ ?_ List.nodup_range
        intro x y hxy e; exact hxy (by injection e)
      · obtain ⟨c, _, rfl⟩ := List.mem_map.1 ha
        have := cells_pairwise.mem_cells_ge _ (r + 1) b hb
        rw [← e] at this
        dsimp only at this; omega
  exact key nr 0
def sl (m : List (List Int)) (r c : Int) : Int := rd (rd_L4 m r) c
theorem sl_set {R C : Nat} {m : List (List Int)} (hd : DimM R C m) {r c r' c' : Int} (hr : 0 ≤ r ∧ r < R) (hc : 0 ≤ c ∧ c < C) (hr' : 0 ≤ r' ∧ r' < R) (hc' : 0 ≤ c' ∧ c' < C) (v : Int) :
    sl (m.set r.toNat ((rd_L4 m r).set c.toNat v)) r' c' = if r = r' ∧ c = c' then v else sl m r' c' := by
  have h1 : r.toNat < m.length := by rw [hd.1]; omega
  have h2 := rd_dim (c := 0) hd hr
  unfold sl
  by_cases e1 : r = r'
  · subst e1
    have h3 : rd_L4 (m.set r.toNat ((rd_L4 m r).set c.toNat v)) r = (rd_L4 m r).set c.toNat v := by
      conv => lhs; unfold rd_L4
      rw [List.getD_eq_getElem?_getD, List.getElem?_set_self h1]; rfl
    rw [h3]
    unfold rd
    by_cases e2 : c = c'
    · subst e2
      rw [List.getD_eq_getElem?_getD, List.getElem?_set_self (by omega), if_pos ⟨rfl, rfl⟩]; rfl
    · rw [List.getD_eq_getElem?_getD, List.getElem?_set_ne (by omega), if_neg (fun h => e2 h.2), ← List.getD_eq_getElem?_getD]
  · have h3 : rd_L4 (m.set r.toNat ((rd_L4 m r).set c.toNat v)) r' = rd_L4 m r' := by
      unfold rd_L4
      rw [List.getD_eq_getElem?_getD, List.getElem?_set_ne (by omega), ← List.getD_eq_getElem?_getD]
    rw [h3, if_neg (fun h => e1 h.1)]
theorem fill_ok {R C : Nat} (i p1 p2 : Int) (hi : 0 ≤ i) : ∀ (xs : List (Nat × Nat)) (m : List (List Int)), DimM R C m → xs.Nodup → (∀ x ∈ xs, (0 ≤ p1 + x.1 ∧ p1 + x.1 < R) ∧ (0 ≤ p2 + x.2 ∧ p2 + x.2 < C) ∧ sl m (p1 + x.1) (p2 + x.2) < 0) →
    ∃ m', fillP i p1 p2 xs m = some m' ∧ DimM R C m' ∧ ∀ r c : Int, 0 ≤ r ∧ r < R → 0 ≤ c ∧ c < C → ((∃ x ∈ xs, p1 + x.1 = r ∧ p2 + x.2 = c) → sl m' r c = i) ∧ ((∀ x ∈ xs, ¬ (p1 + x.1 = r ∧ p2 + x.2 = c)) → sl m' r c = sl m r c)
  | [], m, hd, _, _ => ⟨m, rfl, hd, fun r c _ _ => ⟨fun ⟨x, hx, _⟩ => (nomatch hx), fun _ => rfl⟩⟩
  | x :: xs, m, hd, hn, hx => by
    obtain ⟨h1, h2, h3⟩ := hx x (List.mem_cons_self ..)
    rw [List.nodup_cons] at hn
    obtain ⟨m', e1, e2, e3⟩ := fill_ok i p1 p2 hi xs _ (hd.set (p1 + x.1) (p2 + x.2) i) hn.2 (fun y hy => by
      obtain ⟨g1, g2, g3⟩ := hx y (List.mem_cons_of_mem _ hy)
      refine ⟨g1, g2, ?_⟩
      rw [sl_set hd h1 h2 g1 g2, if_neg]
      · exact g3
      · rintro ⟨q1, q2⟩
        exact hn.1 (by rw [show x = y from Prod.ext (by omega) (by omega)]; exact hy))
    refine ⟨m', ?_, e2, fun r c hr hc => ⟨?_, fun h => ?_⟩⟩
    · show (if rd (rd_L4 m (p1 + x.1)) (p2 + x.2) ≥ 0 then none else fillP i p1 p2 xs _) = _
      rw [if_neg (by have : sl m (p1 + x.1) (p2 + x.2) < 0 := h3; unfold sl at this; omega)]
      exact e1
    · rintro ⟨y, hy, hyr, hyc⟩
      rcases List.mem_cons.1 hy with rfl | hy
      · by_cases hz : ∃ z ∈ xs, p1 + z.1 = r ∧ p2 + z.2 = c
        · exact (e3 r c hr hc).1 hz
        · rw [(e3 r c hr hc).2 (fun z hz1 hz2 => hz ⟨z, hz1, hz2⟩), sl_set hd h1 h2 hr hc, if_pos ⟨hyr, hyc⟩]
      · exact (e3 r c hr hc).1 ⟨y, hy, hyr, hyc⟩
    · rw [(e3 r c hr hc).2 (fun z hz => h z (List.mem_cons_of_mem _ hz)), sl_set hd h1 h2 hr hc, if_neg (h x (List.mem_cons_self ..))]
/-- each slot is nobody's, or of the one place that has it -/
def Own (R C : Nat) (ps : List Pl) (m : List (List Int)) : Prop :=
  ∀ r c : Int, 0 ≤ r ∧ r < R → 0 ≤ c ∧ c < C → (sl m r c = -1 ∧ takenT ps (r, c) = false) ∨ ∃ (j : Nat) (p : Pl), ps[j]? = some p ∧ inP (r, c) p = true ∧ sl m r c = j
theorem slots_own (R C : Nat) : ∀ (ps pre : List Pl) (m : List (List Int)), DimM R C m → Own R C pre m → (∀ (i : Nat) (p : Pl), ps[i]? = some p → placeOKB R C p = true ∧ ∀ a, inP a p = true → takenT (pre ++ ps.take i) a = false) →
    ∃ m', slotsP R C pre.length ps m = some m' ∧ DimM R C m' ∧ Own R C (pre ++ ps) m'
  | [], pre, m, hd, ho, _ => ⟨m, rfl, hd, by rw [List.append_nil]; exact ho⟩
  | p :: ps, pre, m, hd, ho, h => by
    obtain ⟨hok, hfree⟩ := h 0 p rfl
    rw [List.take_zero, List.append_nil] at hfree
    have hok' := hok
    unfold placeOKB at hok
    simp only [Bool.and_eq_true, decide_eq_true_eq] at hok
    obtain ⟨m1, e1, e2, e3⟩ := fill_ok (R := R) (C := C) (pre.length : Int) p.f1 p.f2 (by omega) (slotsOf p.f3.toNat p.f4.toNat) m hd (slots_nodup _ _) (fun x hx => by
      have hx2 := mem_slots hx
      refine ⟨by omega, by omega, ?_⟩
      rcases ho (p.f1 + x.1) (p.f2 + x.2) (by omega) (by omega) with h1 | ⟨j, q, hq, hin, _⟩
      · rw [h1.1]; decide
      · have := hfree (p.f1 + x.1, p.f2 + x.2) ((inP_iff _ _).2 ⟨by dsimp only; omega, by dsimp only; omega, by dsimp only; omega, by dsimp only; omega⟩)
        have h2 := (taken_iff pre _).2 ⟨q, List.mem_of_getElem? hq, hin⟩
        rw [this] at h2; cases h2)
    have hin : ∀ r c : Int, inP (r, c) p = true ↔ ∃ x ∈ slotsOf p.f3.toNat p.f4.toNat, p.f1 + x.1 = r ∧ p.f2 + x.2 = c := fun r c => by
      rw [inP_iff]
      dsimp only
      constructor
      · intro hh
        exact ⟨((r - p.f1).toNat, (c - p.f2).toNat), slots_mem (by omega) (by omega), by dsimp only; omega, by dsimp only; omega⟩
      · rintro ⟨x, hx, h1, h2⟩
        have := mem_slots hx
        omega
    have ho1 : Own R C (pre ++ [p]) m1 := fun r c hr hc => by
      by_cases hp : inP (r, c) p = true
      · exact .inr ⟨pre.length, p, by rw [List.getElem?_append_right (Nat.le_refl _), Nat.sub_self]; rfl, hp, (e3 r c hr hc).1 ((hin r c).1 hp)⟩
      · have hsame := (e3 r c hr hc).2 (fun x hx hh => hp ((hin r c).2 ⟨x, hx, hh⟩))
        rcases ho r c hr hc with h1 | ⟨j, q, hq, hi, hv⟩
        · refine .inl ⟨hsame.trans h1.1, ?_⟩
          have h2 := h1.2
          unfold takenT at h2 ⊢
          rw [List.any_append, h2]; simpa using hp
        · exact .inr ⟨j, q, by rw [List.getElem?_append_left (List.getElem?_eq_some_iff.1 hq).1]; exact hq, hi, hsame.trans hv⟩
    obtain ⟨m', g1, g2, g3⟩ := slots_own R C ps (pre ++ [p]) m1 e2 ho1 (fun i q hq => by
      have := h (i + 1) q hq
      rw [List.take_succ_cons] at this
      rw [List.append_assoc]; exact this)
    refine ⟨m', ?_, g2, by rw [List.append_assoc] at g3; exact g3⟩
    unfold slotsP
    rw [if_pos hok', e1]
    rw [List.length_append, List.length_singleton] at g1
    exact g1
theorem own_init (R C : Nat) : Own R C [] (List.replicate R (List.replicate C (-1))) := fun r c hr hc => by
  refine .inl ⟨?_, rfl⟩
  unfold sl rd rd_L4
  rw [List.getD_eq_getElem?_getD, List.getD_eq_getElem?_getD, List.getElem?_replicate, if_pos (by omega), Option.getD_some, List.getElem?_replicate, if_pos (by omega)]; rfl
/-- what was laid has its slots -/
theorem lay_slots {rows : List (List Sp)} {ends : List Int} (hR : gridRightB rows ends = true) {s : LSt} (hs : runP ends (cellsFrom 0 rows) ⟨[], 0, 0, 0⟩ = s) (hm : s.most ≤ 10000) (hn : (rows.length : Int) * s.most ≤ 1000000) :
    ∃ (C : Nat) (m : List (List Int)), s.most = C ∧ grid_Slots.f s.ps rows.length s.most = some (m, 0) ∧ DimM rows.length C m ∧ Own rows.length C s.ps m := by
  obtain ⟨hh, hb⟩ := lay_hist hR (by rw [hs]; exact hm)
  rw [hs] at hh hb
  have hm0 : 0 ≤ s.most := by have := hb.c0; have := hb.cm; omega
  obtain ⟨C, hC⟩ := Int.eq_ofNat_of_zero_le hm0
  have hrl : rows.length ≤ 65536 ∧ ends.length = rows.length := by
    unfold gridRightB at hR
    simp only [Bool.and_eq_true, decide_eq_true_eq] at hR
    exact ⟨hR.1.1.2, hR.1.1.1.symm⟩
  obtain ⟨m, h1, h2, h3⟩ := slots_own rows.length C s.ps [] (List.replicate rows.length (List.replicate C (-1))) (repl_dim _ _) (own_init _ _) (fun i p hp => by
    obtain ⟨x, hx, hf, hmo⟩ := hh.each i p hp
    obtain ⟨e, he, he1, he2, -, -⟩ := right_end hR (x := x) (List.mem_of_getElem? hx)
    have hel := (List.getElem?_eq_some_iff.1 he).1
    have hen : e ≤ rows.length := by
      unfold gridRightB at hR
      simp only [Bool.and_eq_true, List.all_eq_true] at hR
      have := hR.1.2 (e, x.1) (List.mem_of_getElem? (i := x.1) (by rw [List.getElem?_zipIdx, he]; simp))
      unfold endOK at this
      exact (of_decide_eq_true this).2
    have hg := hf.high
    rw [List.getD_eq_getElem?_getD, he, Option.getD_some] at hg
    have hrow := hf.row
    have hfr := hf.fr
    have hw := hf.wide
    refine ⟨?_, fun a ha => by rw [List.nil_append]; exact hf.free a ha⟩
    unfold placeOKB
    simp only [Bool.and_eq_true, decide_eq_true_eq]
    omega)
  refine ⟨C, m, hC, ?_, h2, by simpa using h3⟩
  unfold grid_Slots.f
  rw [if_pos (by unfold sizesB; simp only [Bool.and_eq_true, decide_eq_true_eq]; omega), hC, Int.toNat_natCast, Int.toNat_natCast]
  rw [show slotsP (rows.length : Int) (C : Int) 0 s.ps (List.replicate rows.length (List.replicate C (-1))) = some m from h1]
  rfl
/-- a slot's place is the only one that has it -/
theorem hist_one {ends : List Int} {pre : List (Nat × Sp)} {s : LSt} (h : HistI ends pre s) {i j : Nat} {p q : Pl} (hp : s.ps[i]? = some p) (hq : s.ps[j]? = some q) {a : Int × Int} (hpa : inP a p = true) (hqa : inP a q = true) : i = j := by
  have key : ∀ {i j : Nat} {p q : Pl}, s.ps[i]? = some p → s.ps[j]? = some q → inP a p = true → inP a q = true → ¬ j < i := fun {i j p q} hp hq hpa hqa hlt => by
    obtain ⟨x, _, hf, _⟩ := h.each i p hp
    have h1 := hf.free a hpa
    have h2 := (taken_iff (s.ps.take i) a).2 ⟨q, List.mem_of_getElem? (i := j) (by rw [List.getElem?_take, if_pos hlt]; exact hq), hqa⟩
    rw [h1] at h2; cases h2
  have h1 := key hp hq hpa hqa
  have h2 := key hq hp hqa hpa
  omega
end Go.Proofs.Ytfoocmmjefdojaa.Pure
