/- Layer 7, plain: what the reference lays; which rows are right; cuts. -/
import Derived.Test.YtfoocmmjefdojaaGrid
import Derived.Test.YtfoocmmjefdojaaEv
import Derived.Test.YtfoocmmjefdojaaK8
import Derived.Test.YtfoocmmjefdojaaK5
import Derived.Test.YtfoocmmjefdojaaK4
namespace Go.Proofs.Ytfoocmmjefdojaa.Pure
set_option linter.unusedVariables false
set_option linter.unusedSimpArgs false
open Go.RowKit Go.Proofs.Ytfoocmmjefdojaa.K Go.Proofs.YtfoocmmjefdojaaW.PrintWords Go.Proofs.YtfoocmmjefdojaaW.PrintLast Go.Proofs.YtfoocmmjefdojaaW.PrintMore

theorem rdPl {xs : List Pl} {j : Nat} {x : Pl} (h : xs[j]? = some x) : rd_T40 xs (j : Int) = x := getD_at h
theorem rdSp {xs : List Sp} {j : Nat} {x : Sp} (h : xs[j]? = some x) : rd_T34 xs (j : Int) = x := getD_at h
theorem rdRow {xs : List (List Sp)} {j : Nat} {x : List Sp} (h : xs[j]? = some x) : rd_L2 xs (j : Int) = x := getD_at h

/-- places of a bounded grid -/
def PlB (p : Pl) : Prop := (0 ≤ p.f1 ∧ p.f1 ≤ 100000) ∧ (0 ≤ p.f2 ∧ p.f2 ≤ 100000) ∧ (0 ≤ p.f3 ∧ p.f3 ≤ 100000) ∧ (0 ≤ p.f4 ∧ p.f4 ≤ 100000)
theorem in_f (p : Pl) (h : PlB p) (r c : Int) : purflingref07_in.f p.f0 p.f1 p.f2 p.f3 p.f4 r c = some (inP (r, c) p) := by
  unfold PlB at h
  unfold purflingref07_in.f inP
  rw [wrap_ok (by omega) (by omega), wrap_ok (by omega) (by omega)]
  by_cases h1 : r ≥ p.f1
  · rw [if_pos h1]
    by_cases h2 : r < p.f1 + p.f3
    · rw [if_pos h2]
      by_cases h3 : c ≥ p.f2
      · rw [if_pos h3]; congr 1; apply decide_eq_decide.2; dsimp only; omega
      · rw [if_neg h3]; congr 1; symm; apply decide_eq_false; dsimp only; omega
    · rw [if_neg h2]; congr 1; symm; apply decide_eq_false; dsimp only; omega
  · rw [if_neg h1]; congr 1; symm; apply decide_eq_false; dsimp only; omega
theorem taken_l0 (ps : List Pl) (hp : ∀ p ∈ ps, PlB p) (hl : ps.length ≤ 1000000) (r c : Int) : ∀ (d j : Nat), j + d = ps.length → Ev (fun k => purflingref07_taken.l0 k ps r c (j : Int)) (takenT (ps.drop j) (r, c))
  | 0, j, h => by
    refine Ev.step (fun k => by rw [purflingref07_taken.l0]) (ev_neg (by omega) (ev_now ?_))
    rw [List.drop_of_length_le (by omega)]; rfl
  | d + 1, j, h => by
    obtain ⟨x, hx, hm⟩ := at_some (xs := ps) (j := j) (by omega)
    refine Ev.step (fun k => by rw [purflingref07_taken.l0]) (ev_pos (by omega) (ev_pos (by omega) ?_))
    rw [rdPl hx]
    refine ev_bind (ev_const (in_f x (hp x hm) r c)) ?_
    rw [List.drop_eq_getElem_cons (by omega), show ps[j] = x from by have := List.getElem?_eq_some_iff.1 hx; exact this.2]
    unfold takenT
    rw [List.any_cons]
    cases hin : inP (r, c) x with
    | true => exact ev_pos rfl (ev_now rfl)
    | false =>
      refine ev_neg (by decide) ?_
      rw [up_ok (by omega), Bool.false_or]
      exact taken_l0 ps hp hl r c d (j + 1) (by omega)
theorem taken_ev (ps : List Pl) (hp : ∀ p ∈ ps, PlB p) (hl : ps.length ≤ 1000000) (r c : Int) : Ev (fun k => purflingref07_taken.f k ps r c) (takenT ps (r, c)) :=
  taken_l0 ps hp hl r c ps.length 0 (by omega)

def ansP (s : LSt) : List Pl × Int × Int := if s.most > 10000 then ([], 0, 43) else (s.ps, s.most, 0)

section
variable (rows : List (List Sp)) (ends : List Int)
/-- the free column -/
theorem l2_ev (ps : List Pl) (hp : ∀ p ∈ ps, PlB p) (hl : ps.length ≤ 1000000) (most : Int) (r i : Nat) (c : Sp) (res : List Pl × Int × Int) : ∀ (n : Nat) (q : Int), 0 ≤ q → q ≤ 100000 →
    freeN (takenT ps) r n q ≤ 100000 → takenT ps ((r : Int), freeN (takenT ps) r n q) = false →
    Ev (fun k => purflingref07_Lay.l3 k rows ends ps most r (freeN (takenT ps) r n q) i 1 c.f0 c.f1 c.f2) res →
    Ev (fun k => purflingref07_Lay.l2 k rows ends ps most r q i c.f0 c.f1 c.f2) res
  | 0, q, h0, h1, h2, h3, h4 => by
    unfold freeN at h3 h4
    refine Ev.step (fun k => by rw [purflingref07_Lay.l2]) (ev_bind (taken_ev ps hp hl _ _) ?_)
    rw [h3]; exact ev_neg (by decide) h4
  | n + 1, q, h0, h1, h2, h3, h4 => by
    unfold freeN at h2 h3 h4
    refine Ev.step (fun k => by rw [purflingref07_Lay.l2]) (ev_bind (taken_ev ps hp hl _ _) ?_)
    by_cases hT : takenT ps ((r : Int), q) = true
    · rw [if_pos hT] at h2 h3 h4
      rw [hT]
      refine ev_pos rfl ?_
      rw [wrap_ok (by omega) (by omega)]
      by_cases hq : q + 1 ≤ 100000
      · exact l2_ev ps hp hl most r i c res n (q + 1) (by omega) hq h2 h3 h4
      · exfalso
        have : ∀ (n : Nat) (q : Int), q ≤ freeN (takenT ps) r n q := by
          intro n; induction n with
          | zero => intro q; exact Int.le_refl _
          | succ n ih => intro q; unfold freeN; split; have := ih (q + 1); omega; exact Int.le_refl _
        have := this n (q + 1); omega
    · rw [if_neg hT] at h3 h4
      have hT' : takenT ps ((r : Int), q) = false := by simpa using hT
      rw [hT']
      exact ev_neg (by decide) h4
/-- how wide -/
theorem l3_ev (ps : List Pl) (hp : ∀ p ∈ ps, PlB p) (hl : ps.length ≤ 1000000) (most : Int) (r i : Nat) (q : Int) (hq : 0 ≤ q ∧ q ≤ 100000) (c : Sp) (hc : c.f1 ≤ 1000) (res : List Pl × Int × Int) : ∀ (n : Nat) (y : Int), 1 ≤ y → c.f1 - y < n →
    Ev (fun k => purflingref07_Lay.j4 k rows ends ps most r q i (wideN (takenT ps) r q c.f1 n y) c.f0 c.f1 c.f2) res →
    Ev (fun k => purflingref07_Lay.l3 k rows ends ps most r q i y c.f0 c.f1 c.f2) res
  | 0, y, h0, h1, h4 => by
    unfold wideN at h4
    exact Ev.step (fun k => by rw [purflingref07_Lay.l3]) (ev_neg (by omega) h4)
  | n + 1, y, h0, h1, h4 => by
    unfold wideN at h4
    refine Ev.step (fun k => by rw [purflingref07_Lay.l3]) ?_
    by_cases hy : y < c.f1
    · refine ev_pos hy ?_
      rw [wrap_ok (x := q + y) (by omega) (by omega)]
      refine ev_bind (taken_ev ps hp hl _ _) ?_
      cases hT : takenT ps ((r : Int), q + y) with
      | true =>
        rw [if_neg (by rw [hT]; simp)] at h4
        exact ev_pos rfl h4
      | false =>
        rw [if_pos ⟨hy, hT⟩] at h4
        refine ev_neg (by decide) ?_
        rw [wrap_ok (by omega) (by omega)]
        exact l3_ev ps hp hl most r i q hq c hc res n (y + 1) (by omega) (by omega) h4
    · rw [if_neg (fun h => hy h.1)] at h4
      exact ev_neg hy h4
/-- the place is laid -/
theorem j4_ev (ps : List Pl) (hl : ps.length ≤ 1000000) (most : Int) (r i : Nat) (hi : i ≤ 1000000) (q n e : Int) (hq : 0 ≤ q ∧ q ≤ 100000) (hn : 0 ≤ n ∧ n ≤ 100000) (c : Sp) (hc : 0 ≤ c.f2) (he : ends[r]? = some e) (hr : (r : Int) + 1 ≤ e ∧ e ≤ 65536) (res : List Pl × Int × Int)
    (h : if max most (q + n) > 10000 then res = ([], 0, 43) else
      Ev (fun k => purflingref07_Lay.l1 k rows ends (ps ++ [⟨c.f0, r, q, if c.f2 > 0 then min c.f2 (e - r) else e - r, n⟩]) (max most (q + n)) r (q + n) ((i + 1 : Nat) : Int)) res) :
    Ev (fun k => purflingref07_Lay.j4 k rows ends ps most r q i n c.f0 c.f1 c.f2) res := by
  have hlt : (r : Int) < (ends.length : Int) := by have := (List.getElem?_eq_some_iff.1 he).1; omega
  have hw : wrap64 (rd ends (r : Int) - (r : Int)) = e - r := by rw [rd_at he]; exact wrap_ok (by omega) (by omega)
  have key : ∀ (b : Bool) (h' : Int), h' = (if b = true then e - r else c.f2) → (if max most (q + n) > 10000 then res = ([], 0, 43) else
      Ev (fun k => purflingref07_Lay.l1 k rows ends (ps ++ [⟨c.f0, r, q, h', n⟩]) (max most (q + n)) r (q + n) ((i + 1 : Nat) : Int)) res) →
      Ev (fun k => purflingref07_Lay.j5 k rows ends ps most r q i n c.f2 b c.f0 c.f1 c.f2) res := by
    intro b h' hb hh
    refine Ev.step (fun k => by rw [purflingref07_Lay.j5]) ?_
    cases b with
    | true =>
      rw [if_pos rfl] at hb
      subst hb
      refine ev_pos rfl (ev_pos (by omega) (ev_pos hlt (ev_pos (by omega) ?_)))
      rw [hw, mx_max, wrap_ok (x := q + n) (by omega) (by omega), up_ok (by omega)]
      by_cases hm : max most (q + n) > 10000
      · rw [if_pos hm] at hh
        exact ev_pos hm (ev_now hh.symm)
      · rw [if_neg hm] at hh
        exact ev_neg hm hh
    | false =>
      rw [if_neg (by decide)] at hb
      subst hb
      refine ev_neg (by decide) (ev_pos (by omega) ?_)
      rw [mx_max, wrap_ok (x := q + n) (by omega) (by omega), up_ok (by omega)]
      by_cases hm : max most (q + n) > 10000
      · rw [if_pos hm] at hh
        exact ev_pos hm (ev_now hh.symm)
      · rw [if_neg hm] at hh
        exact ev_neg hm hh
  refine Ev.step (fun k => by rw [purflingref07_Lay.j4]) ?_
  by_cases h0 : c.f2 = 0
  · refine ev_pos h0 (key true _ (by rw [if_pos rfl, if_neg (by omega)]) h)
  · refine ev_neg h0 (ev_pos (by omega) (ev_pos hlt ?_))
    rw [hw]
    refine key _ _ ?_ h
    rw [if_pos (by omega)]
    by_cases h2 : c.f2 > e - r
    · rw [decide_eq_true h2, if_pos rfl]; omega
    · rw [decide_eq_false h2, if_neg (by decide)]; omega

/-- what holds of a state of the reference -/
structure RefS (s : LSt) (n : Nat) : Prop where
  bd : BdS s
  m : s.most ≤ 10000
  pl : ∀ p ∈ s.ps, PlB p
  len : s.ps.length + n ≤ 1000000

theorem step_ref {s : LSt} {n r : Nat} {c : Sp} {e : Int} (h : RefS s (n + 1)) (hc : 1 ≤ c.f1 ∧ c.f1 ≤ 1000) (hc2 : 0 ≤ c.f2 ∧ c.f2 ≤ 1000) (he : ends[r]? = some e) (hr : (r : Int) + 1 ≤ e ∧ e ≤ 65536) (hm : (stepP ends s (r, c)).most ≤ 10000) : RefS (stepP ends s (r, c)) n := by
  have hk := place_ok (r := r) (end_ := e) (c := c) (from_ := if (r : Int) = s.at_ then s.col else 0) h.bd.inb h.m (by have := h.bd.c0; split <;> omega) (by have := h.bd.cm; have := h.bd.c0; split <;> omega) hc
  refine ⟨step_bd h.bd h.m hc, hm, ?_, ?_⟩
  · unfold stepP
    dsimp only
    rw [List.getD_eq_getElem?_getD, he, Option.getD_some]
    intro p hp
    rcases List.mem_append.1 hp with hp | hp
    · exact h.pl p hp
    · rw [List.mem_singleton.1 hp]
      have h1 := hk.q0
      have h2 := hk.q1
      have h3 := hk.n0
      have h4 := hk.n2
      have h5 := h.m
      have h6 := h.bd.c0
      have h7 : 0 ≤ (if (r : Int) = s.at_ then s.col else 0) := by split <;> omega
      refine ⟨?_, ?_, ?_, ?_⟩
      · show 0 ≤ (r : Int) ∧ (r : Int) ≤ 100000; omega
      · omega
      · show 0 ≤ (if c.f2 > 0 then min c.f2 (e - r) else e - r) ∧ (if c.f2 > 0 then min c.f2 (e - r) else e - r) ≤ 100000
        split <;> omega
      · omega
  · unfold stepP; dsimp only; have := h.len; simp; omega

theorem l1_ev (hR : gridRightB rows ends = true) (r : Nat) (row : List Sp) (hrow : rows[r]? = some row) (e : Int) (he : ends[r]? = some e) (hr : (r : Int) + 1 ≤ e ∧ e ≤ 65536) (hcs : ∀ c ∈ row, (1 ≤ c.f1 ∧ c.f1 ≤ 1000) ∧ (0 ≤ c.f2 ∧ c.f2 ≤ 1000)) (tail : List (Nat × Sp)) (hrl : row.length ≤ 1000000)
    (next : ∀ s : LSt, RefS s tail.length → s.at_ ≤ r → Ev (fun k => purflingref07_Lay.l0 k rows ends s.ps s.most ((r + 1 : Nat) : Int)) (ansP (runP ends tail s))) :
    ∀ (cs pre : List Sp) (s : LSt), row = pre ++ cs → RefS s (cs.length + tail.length) → s.at_ ≤ r →
      Ev (fun k => purflingref07_Lay.l1 k rows ends s.ps s.most r (if (r : Int) = s.at_ then s.col else 0) (pre.length : Int)) (ansP (runP ends (cs.map (fun c => (r, c)) ++ tail) s))
  | [], pre, s, hp, hs, ha => by
    have hlt := (List.getElem?_eq_some_iff.1 hrow).1
    have hr1 : row.length = pre.length := by rw [hp]; simp
    refine Ev.step (fun k => by rw [purflingref07_Lay.l1]) (ev_pos (by omega) (ev_pos (by omega) ?_))
    rw [rdRow hrow]
    refine ev_neg (by omega) ?_
    rw [up_ok (by omega)]
    exact next s (by simpa using hs) ha
  | c :: cs, pre, s, hp, hs, ha => by
    have hlt := (List.getElem?_eq_some_iff.1 hrow).1
    have hr1 : row.length = pre.length + (cs.length + 1) := by rw [hp]; simp
    have hc : row[pre.length]? = some c := by rw [hp]; simp
    obtain ⟨hc1, hc2⟩ := hcs c (by rw [hp]; simp)
    refine Ev.step (fun k => by rw [purflingref07_Lay.l1]) (ev_pos (by omega) (ev_pos (by omega) ?_))
    rw [rdRow hrow, rdSp hc]
    refine ev_pos (by omega) (ev_pos (by omega) ?_)
    have hb := hs.bd
    have hf0 : 0 ≤ (if (r : Int) = s.at_ then s.col else 0) ∧ (if (r : Int) = s.at_ then s.col else 0) ≤ s.most := by have := hb.c0; have := hb.cm; split <;> omega
    have hk := place_ok (r := r) (end_ := e) (c := c) hb.inb hs.m hf0.1 hf0.2 hc1
    have hfr : (placeP s.ps e r (if (r : Int) = s.at_ then s.col else 0) c).f2 = freeN (takenT s.ps) r 20001 (if (r : Int) = s.at_ then s.col else 0) := rfl
    have hq1 := hk.q1
    have hq0 := hk.q0
    have hn0 := hk.n0
    have hn2 := hk.n2
    have hm := hs.m
    have hll := hs.len
    refine l2_ev rows ends s.ps hs.pl (by omega) s.most r pre.length c _ 20001 _ hf0.1 (by omega) (by rw [← hfr]; omega) (by rw [← hfr]; exact hk.t2) ?_
    refine l3_ev rows ends s.ps hs.pl (by omega) s.most r pre.length _ (by rw [← hfr]; omega) c hc1.2 _ 1001 1 (by omega) (by omega) ?_
    refine j4_ev rows ends s.ps (by omega) s.most r pre.length (by omega) _ _ e (by rw [← hfr]; omega) ⟨by have := hn0; unfold placeP at this; dsimp only at this; omega, by have := hn2; unfold placeP at this; dsimp only at this; omega⟩ c hc2.1 he hr _ ?_
    rw [List.map_cons, List.cons_append]
    unfold runP
    have hst : (stepP ends s (r, c)) = ⟨s.ps ++ [placeP s.ps e r (if (r : Int) = s.at_ then s.col else 0) c], r, (placeP s.ps e r (if (r : Int) = s.at_ then s.col else 0) c).f2 + (placeP s.ps e r (if (r : Int) = s.at_ then s.col else 0) c).f4, max s.most ((placeP s.ps e r (if (r : Int) = s.at_ then s.col else 0) c).f2 + (placeP s.ps e r (if (r : Int) = s.at_ then s.col else 0) c).f4)⟩ := by
      unfold stepP; dsimp only; rw [List.getD_eq_getElem?_getD, he, Option.getD_some]
    by_cases hbig : (stepP ends s (r, c)).most > 10000
    · rw [if_pos hbig, if_pos (by rw [hst] at hbig; exact hbig)]
      unfold ansP; rw [if_pos hbig]
    · rw [if_neg hbig, if_neg (by rw [hst] at hbig; exact hbig)]
      have ih := l1_ev hR r row hrow e he hr hcs tail hrl next cs (pre ++ [c]) (stepP ends s (r, c)) (by rw [hp]; simp) (step_ref ends (n := cs.length + tail.length) (by rw [show cs.length + tail.length + 1 = (c :: cs).length + tail.length by simp; omega]; exact hs) hc1 hc2 he hr (by omega)) (by rw [hst]; exact Int.le_refl _)
      rw [hst] at ih ⊢
      rw [if_pos rfl, List.length_append] at ih
      exact ih
end
end Go.Proofs.Ytfoocmmjefdojaa.Pure
namespace Go.Proofs.Ytfoocmmjefdojaa.Pure
set_option linter.unusedVariables false
set_option linter.unusedSimpArgs false
open Go.RowKit Go.Proofs.Ytfoocmmjefdojaa.K Go.Proofs.YtfoocmmjefdojaaW.PrintWords Go.Proofs.YtfoocmmjefdojaaW.PrintLast Go.Proofs.YtfoocmmjefdojaaW.PrintMore

section
variable (rows : List (List Sp)) (ends : List Int)
theorem row_facts (hR : gridRightB rows ends = true) {r : Nat} {row : List Sp} (hrow : rows[r]? = some row) : ∃ e, ends[r]? = some e ∧ ((r : Int) + 1 ≤ e ∧ e ≤ 65536) ∧ ∀ c ∈ row, (1 ≤ c.f1 ∧ c.f1 ≤ 1000) ∧ (0 ≤ c.f2 ∧ c.f2 ≤ 1000) := by
  unfold gridRightB at hR
  simp only [Bool.and_eq_true, List.all_eq_true, decide_eq_true_eq] at hR
  obtain ⟨⟨⟨h1, h2⟩, h3⟩, h4⟩ := hR
  have hlt0 := (List.getElem?_eq_some_iff.1 hrow).1
  have hlt : r < ends.length := by omega
  refine ⟨ends[r], List.getElem?_eq_getElem hlt, ?_, fun c hc => ?_⟩
  · have := h3 (ends[r], r) (List.mem_of_getElem? (i := r) (by rw [List.getElem?_zipIdx, List.getElem?_eq_getElem hlt]; simp))
    unfold endOK at this
    simp only [decide_eq_true_eq] at this
    omega
  · obtain ⟨m, hm⟩ := List.getElem?_of_mem hc
    obtain ⟨rest, hrest⟩ := cells_split hrow hm
    have h5 := h4 (r, c) (by rw [hrest]; simp)
    unfold spOK at h5
    simp only [Bool.and_eq_true, decide_eq_true_eq] at h5
    exact h5
theorem l0_ev (hR : gridRightB rows ends = true) : ∀ (d r : Nat) (s : LSt), r + d = rows.length → (cellsFrom r (rows.drop r)).length ≤ 1000000 → RefS s (cellsFrom r (rows.drop r)).length → (r = 0 ∧ s.at_ = 0 ∧ s.col = 0 ∨ s.at_ < r) →
    Ev (fun k => purflingref07_Lay.l0 k rows ends s.ps s.most (r : Int)) (ansP (runP ends (cellsFrom r (rows.drop r)) s))
  | 0, r, s, h, hl, hs, ha => by
    refine Ev.step (fun k => by rw [purflingref07_Lay.l0]) (ev_neg (by omega) (ev_now ?_))
    rw [List.drop_of_length_le (by omega)]
    unfold cellsFrom runP ansP
    rw [if_neg (by have := hs.m; omega)]
  | d + 1, r, s, h, hl, hs, ha => by
    obtain ⟨row, hrow, -⟩ := at_some (xs := rows) (j := r) (by omega)
    obtain ⟨e, he, her, hcs⟩ := row_facts rows ends hR hrow
    have hd : rows.drop r = row :: rows.drop (r + 1) := by
      have h2 := (List.getElem?_eq_some_iff.1 hrow).2
      rw [List.drop_eq_getElem_cons (by omega), h2]
    rw [hd] at hl hs ⊢
    unfold cellsFrom at hl hs ⊢
    rw [List.length_append, List.length_map] at hl hs
    refine Ev.step (fun k => by rw [purflingref07_Lay.l0]) (ev_pos (by omega) ?_)
    have h1 := l1_ev rows ends hR r row hrow e he her hcs (cellsFrom (r + 1) (rows.drop (r + 1))) (by omega) (fun s' hs' ha' => l0_ev hR d (r + 1) s' (by omega) (by omega) hs' (.inr (by omega))) row [] s rfl hs (by omega)
    have h0 : (if (r : Int) = s.at_ then s.col else 0) = 0 := by
      rcases ha with ⟨h2, h3, h4⟩ | h2
      · rw [h4]; simp
      · rw [if_neg (by omega)]
    rw [h0] at h1
    exact h1
/-- which rows are right -/
def cellOK (c : Sp) : Bool := decide (1 ≤ c.f1 ∧ c.f1 ≤ 1000) && decide (0 ≤ c.f2 ∧ c.f2 ≤ 1000)
def rowsOK (n : Nat) : Nat → List (List Sp) → List Int → Bool
  | r, row :: rows, e :: ends => decide ((r : Int) + 1 ≤ e ∧ e ≤ n) && row.all cellOK && rowsOK n (r + 1) rows ends
  | _, _, _ => true
theorem rowsOK_eq (n : Nat) : ∀ (rs : List (List Sp)) (es : List Int) (r : Nat), rs.length = es.length → rowsOK n r rs es = ((es.zipIdx r).all (endOK n) && (cellsFrom r rs).all spOK)
  | [], [], r, _ => rfl
  | row :: rs, e :: es, r, h => by
    unfold rowsOK cellsFrom
    rw [rowsOK_eq n rs es (r + 1) (by simpa using h), List.zipIdx_cons, List.all_cons, List.all_append]
    have h1 : (row.map (fun c => (r, c))).all spOK = row.all cellOK := by rw [List.all_map]; rfl
    rw [h1]
    unfold endOK
    cases decide ((r : Int) + 1 ≤ e ∧ e ≤ n) <;> cases row.all cellOK <;> simp
theorem right_l1 (hl : rows.length ≤ 100000) (r : Nat) (row : List Sp) (hrow : rows[r]? = some row) (hrl : row.length ≤ 100000) (res : Bool) : ∀ (cs pre : List Sp), row = pre ++ cs →
    (cs.all cellOK = true → Ev (fun k => purflingref07_Right.l0 k rows ends ((r + 1 : Nat) : Int)) res) → (cs.all cellOK = false → res = false) → Ev (fun k => purflingref07_Right.l1 k rows ends (r : Int) (pre.length : Int)) res
  | [], pre, hp, h1, h2 => by
    have hlt := (List.getElem?_eq_some_iff.1 hrow).1
    have hr1 : row.length = pre.length := by rw [hp]; simp
    refine Ev.step (fun k => by rw [purflingref07_Right.l1]) (ev_pos (by omega) (ev_pos (by omega) ?_))
    rw [rdRow hrow]
    refine ev_neg (by omega) ?_
    rw [up_ok (by omega)]
    exact h1 rfl
  | c :: cs, pre, hp, h1, h2 => by
    have hlt := (List.getElem?_eq_some_iff.1 hrow).1
    have hr1 : row.length = pre.length + (cs.length + 1) := by rw [hp]; simp
    have hc : row[pre.length]? = some c := by rw [hp]; simp
    refine Ev.step (fun k => by rw [purflingref07_Right.l1]) (ev_pos (by omega) (ev_pos (by omega) ?_))
    rw [rdRow hrow, rdSp hc]
    refine ev_pos (by omega) (ev_pos (by omega) ?_)
    rw [List.all_cons] at h1 h2
    have hno : cellOK c = false → res = false := fun h => h2 (by rw [h]; rfl)
    unfold cellOK at hno
    by_cases q1 : c.f1 < 1
    · exact ev_pos q1 (ev_now (hno (by rw [decide_eq_false (by omega)]; rfl)).symm)
    refine ev_neg q1 ?_
    by_cases q2 : c.f1 > 1000
    · exact ev_pos q2 (ev_now (hno (by rw [decide_eq_false (by omega)]; rfl)).symm)
    refine ev_neg q2 ?_
    by_cases q3 : c.f2 < 0
    · exact ev_pos q3 (ev_now (hno (by rw [decide_eq_false (p := 0 ≤ c.f2 ∧ _) (by omega), Bool.and_false])).symm)
    refine ev_neg q3 ?_
    by_cases q4 : c.f2 > 1000
    · exact ev_pos q4 (ev_now (hno (by rw [decide_eq_false (p := 0 ≤ c.f2 ∧ _) (by omega), Bool.and_false])).symm)
    refine ev_neg q4 ?_
    have hyes : cellOK c = true := by unfold cellOK; rw [decide_eq_true (by omega), decide_eq_true (by omega)]; rfl
    rw [hyes, Bool.true_and] at h1 h2
    rw [up_ok (by omega), show ((pre.length + 1 : Nat) : Int) = ((pre ++ [c]).length : Int) by simp]
    exact right_l1 hl r row hrow hrl res cs (pre ++ [c]) (by rw [hp]; simp) h1 h2
theorem right_l0 (hlen : rows.length = ends.length) (hl : rows.length ≤ 100000) (hrl : ∀ row ∈ rows, row.length ≤ 100000) : ∀ (d r : Nat), r + d = rows.length → Ev (fun k => purflingref07_Right.l0 k rows ends (r : Int)) (rowsOK rows.length r (rows.drop r) (ends.drop r))
  | 0, r, h => by
    refine Ev.step (fun k => by rw [purflingref07_Right.l0]) (ev_neg (by omega) (ev_now ?_))
    rw [List.drop_of_length_le (by omega)]; rfl
  | d + 1, r, h => by
    obtain ⟨row, hrow, hm⟩ := at_some (xs := rows) (j := r) (by omega)
    obtain ⟨e, he, -⟩ := at_some (xs := ends) (j := r) (by omega)
    have hd : rows.drop r = row :: rows.drop (r + 1) := by
      have h2 := (List.getElem?_eq_some_iff.1 hrow).2
      rw [List.drop_eq_getElem_cons (by omega), h2]
    have hd2 : ends.drop r = e :: ends.drop (r + 1) := by
      have h2 := (List.getElem?_eq_some_iff.1 he).2
      rw [List.drop_eq_getElem_cons (by omega), h2]
    rw [hd, hd2]
    unfold rowsOK
    refine Ev.step (fun k => by rw [purflingref07_Right.l0]) (ev_pos (by omega) (ev_pos (by omega) (ev_pos (by omega) ?_)))
    rw [rd_at he]
    have j2 : ∀ b : Bool, b = !decide ((r : Int) + 1 ≤ e ∧ e ≤ rows.length) → Ev (fun k => purflingref07_Right.j2 k rows ends (r : Int) b) (decide ((r : Int) + 1 ≤ e ∧ e ≤ rows.length) && row.all cellOK && rowsOK rows.length (r + 1) (rows.drop (r + 1)) (ends.drop (r + 1))) := by
      intro b hb
      refine Ev.step (fun k => by rw [purflingref07_Right.j2]) ?_
      cases hq : decide ((r : Int) + 1 ≤ e ∧ e ≤ rows.length) with
      | false => rw [hq] at hb; subst hb; exact ev_pos rfl (ev_now rfl)
      | true =>
        rw [hq] at hb; subst hb
        refine ev_neg (by decide) ?_
        refine right_l1 rows ends hl r row hrow (hrl row hm) _ row [] rfl (fun h => ?_) (fun h => ?_)
        · rw [h, Bool.true_and, Bool.true_and]; exact right_l0 hlen hl hrl d (r + 1) (by omega)
        · rw [h]; rfl
    by_cases q : e ≤ (r : Int)
    · exact ev_pos q (j2 true (by rw [decide_eq_false (by omega)]; rfl))
    · refine ev_neg q (j2 _ ?_)
      by_cases q2 : e > (rows.length : Int)
      · rw [decide_eq_true q2, decide_eq_false (by omega)]; rfl
      · rw [decide_eq_false q2, decide_eq_true (by omega)]; rfl
theorem right_ev (hl : rows.length ≤ 65536) (hrl : ∀ row ∈ rows, row.length ≤ 100000) : Ev (fun k => purflingref07_Right.f k rows ends) (gridRightB rows ends) := by
  unfold purflingref07_Right.f gridRightB
  by_cases h : (rows.length : Int) = (ends.length : Int)
  · refine ev_pos h (Ev.step (fun k => by rw [purflingref07_Right.j0]) (ev_neg (by simp; omega) ?_))
    have h1 := right_l0 rows ends (by omega) (by omega) hrl rows.length 0 (by omega)
    rw [List.drop_zero, List.drop_zero, rowsOK_eq _ _ _ _ (by omega)] at h1
    rw [decide_eq_true (show rows.length = ends.length by omega), decide_eq_true hl]
    exact h1
  · refine ev_neg h (Ev.step (fun k => by rw [purflingref07_Right.j0]) (ev_pos rfl (ev_now ?_)))
    rw [decide_eq_false (show ¬ rows.length = ends.length by omega)]; rfl
/-- the reference lays as Lay does -/
theorem lay_ev (hl : rows.length ≤ 65536) (hrl : ∀ row ∈ rows, row.length ≤ 100000) (hcl : (cellsFrom 0 rows).length ≤ 100000) : ∃ t, grid_Lay.f rows ends = some t ∧ Ev (fun k => purflingref07_Lay.f k rows ends) t := by
  unfold grid_Lay.f purflingref07_Lay.f
  cases hR : gridRightB rows ends with
  | false =>
    refine ⟨_, by rw [if_neg (by decide)], ev_bind (right_ev rows ends hl hrl) ?_⟩
    rw [hR]
    exact ev_neg (by decide) (ev_now rfl)
  | true =>
    refine ⟨_, by rw [if_pos rfl, if_pos hcl], ev_bind (right_ev rows ends hl hrl) ?_⟩
    rw [hR]
    refine ev_pos rfl ?_
    have h := l0_ev rows ends hR rows.length 0 ⟨[], 0, 0, 0⟩ (by omega) (by rw [List.drop_zero]; omega) ⟨BdS.init, by decide, (fun p hp => nomatch hp), by rw [List.drop_zero]; simp; omega⟩ (.inl ⟨rfl, rfl, rfl⟩)
    rw [List.drop_zero] at h
    exact h
end
theorem same_l0 (a b : List Pl) (hl : a.length ≤ 1000000) (hab : a = b) : ∀ (d j : Nat), j + d = a.length → Ev (fun k => purflingref07_Same.l0 k a b (j : Int)) true
  | 0, j, h => Ev.step (fun k => by rw [purflingref07_Same.l0]) (ev_neg (by omega) (ev_now rfl))
  | d + 1, j, h => by
    subst hab
    refine Ev.step (fun k => by rw [purflingref07_Same.l0]) (ev_pos (by omega) (ev_pos (by omega) (ev_pos (by omega) (ev_neg (by simp) ?_))))
    rw [up_ok (by omega)]
    exact same_l0 a a hl rfl d (j + 1) (by omega)
theorem same_ev (a : List Pl) (hl : a.length ≤ 1000000) : Ev (fun k => purflingref07_Same.f k a a) true := by
  unfold purflingref07_Same.f
  exact ev_pos rfl (same_l0 a a hl rfl a.length 0 (by omega))
/-- the law's cut -/
theorem cut_l1 (rows out : List (List Sp)) (r : Nat) (hr : r < 20) (row : List Sp) (hrow : rows[r]? = some row) (hol : out.length ≤ 100) (P : List (List Sp) → Prop)
    (next : ∀ c : List Sp, c.length ≤ 10 → ∃ t, Ev (fun k => purflinglaw07_Cut.l0 k rows (out ++ [c]) ((r + 1 : Nat) : Int)) t ∧ P t) : ∀ (d i : Nat) (acc : List Sp), i + d = 10 → acc.length = i → i ≤ row.length → ∃ t, Ev (fun k => purflinglaw07_Cut.l1 k rows out (r : Int) acc (i : Int)) t ∧ P t := by
  have hlt := (List.getElem?_eq_some_iff.1 hrow).1
  have stop : ∀ (i : Nat) (acc : List Sp), acc.length ≤ 10 → ∃ t, Ev (fun k => purflinglaw07_Cut.j3 k rows out (r : Int) acc (i : Int) false) t ∧ P t := by
    intro i acc ha
    obtain ⟨t, ht, hp⟩ := next acc ha
    refine ⟨t, Ev.step (fun k => by rw [purflinglaw07_Cut.j3]) (ev_neg (by decide) (ev_pos (by omega) ?_)), hp⟩
    rw [up_ok (by omega)]; exact ht
  intro d
  induction d with
  | zero =>
    intro i acc h ha hi
    obtain ⟨t, ht, hp⟩ := stop i acc (by omega)
    refine ⟨t, Ev.step (fun k => by rw [purflinglaw07_Cut.l1]) (ev_pos (by omega) (ev_pos (by omega) ?_)), hp⟩
    rw [rdRow hrow]
    by_cases q : (i : Int) < (row.length : Int)
    · refine ev_pos q ?_
      rw [decide_eq_false (by omega)]; exact ht
    · exact ev_neg q ht
  | succ d ih =>
    intro i acc h ha hi
    by_cases q : (i : Int) < (row.length : Int)
    · obtain ⟨c, hc, -⟩ := at_some (xs := row) (j := i) (by omega)
      have go : ∀ c' : Sp, ∃ t, Ev (fun k => purflinglaw07_Cut.l1 k rows out (r : Int) (acc ++ [c']) (wrap64 ((i : Int) + 1))) t ∧ P t := fun c' => by
        rw [up_ok (by omega)]; exact ih (i + 1) (acc ++ [c']) (by omega) (by simp; omega) (by omega)
      have mk : ∀ {t}, Ev (fun k => purflinglaw07_Cut.j3 k rows out (r : Int) acc (i : Int) true) t → Ev (fun k => purflinglaw07_Cut.l1 k rows out (r : Int) acc (i : Int)) t := fun {t} ht => by
        refine Ev.step (fun k => by rw [purflinglaw07_Cut.l1]) (ev_pos (by omega) (ev_pos (by omega) ?_))
        rw [rdRow hrow]
        refine ev_pos q ?_
        rw [decide_eq_true (by omega)]; exact ht
      have mk2 : ∀ {t} {f : Nat → Option (List (List Sp))}, (∀ k, f k = if c.f1 > 30 then (if c.f1 ≤ 1000 then (if acc.length < 5864062014805 then (purflinglaw07_Cut.l1 k rows out (r : Int) (acc ++ [(⟨c.f0, 30, c.f2⟩ : Sp)]) (wrap64 ((i : Int) + 1))) else none) else (if acc.length < 5864062014805 then (purflinglaw07_Cut.l1 k rows out (r : Int) (acc ++ [(⟨c.f0, c.f1, c.f2⟩ : Sp)]) (wrap64 ((i : Int) + 1))) else none)) else (if acc.length < 5864062014805 then (purflinglaw07_Cut.l1 k rows out (r : Int) (acc ++ [(⟨c.f0, c.f1, c.f2⟩ : Sp)]) (wrap64 ((i : Int) + 1))) else none)) → Ev f t → Ev (fun k => purflinglaw07_Cut.j3 k rows out (r : Int) acc (i : Int) true) t := fun {t f} hf ht => by
        refine Ev.step (fun k => by rw [purflinglaw07_Cut.j3]) (ev_pos rfl (ev_pos (by omega) (ev_pos (by omega) (ev_pos (by omega) ?_))))
        rw [rdRow hrow, rdSp hc]
        refine ev_pos (by omega) ?_
        exact Ev.congr (fun k => (hf k).symm) ht
      by_cases q1 : c.f1 > 30
      · by_cases q2 : c.f1 ≤ 1000
        · obtain ⟨t, ht, hp⟩ := go ⟨c.f0, 30, c.f2⟩
          exact ⟨t, mk (mk2 (fun k => rfl) (ev_pos q1 (ev_pos q2 (ev_pos (by omega) ht)))), hp⟩
        · obtain ⟨t, ht, hp⟩ := go ⟨c.f0, c.f1, c.f2⟩
          exact ⟨t, mk (mk2 (fun k => rfl) (ev_pos q1 (ev_neg q2 (ev_pos (by omega) ht)))), hp⟩
      · obtain ⟨t, ht, hp⟩ := go ⟨c.f0, c.f1, c.f2⟩
        exact ⟨t, mk (mk2 (fun k => rfl) (ev_neg q1 (ev_pos (by omega) ht))), hp⟩
    · obtain ⟨t, ht, hp⟩ := stop i acc (by omega)
      refine ⟨t, Ev.step (fun k => by rw [purflinglaw07_Cut.l1]) (ev_pos (by omega) (ev_pos (by omega) ?_)), hp⟩
      rw [rdRow hrow]
      exact ev_neg q ht
theorem cut_l0 (rows : List (List Sp)) : ∀ (d r : Nat) (out : List (List Sp)), r + d = 20 → r ≤ rows.length → out.length = r → (∀ x ∈ out, x.length ≤ 10) → ∃ t, Ev (fun k => purflinglaw07_Cut.l0 k rows out (r : Int)) t ∧ t.length ≤ 20 ∧ ∀ x ∈ t, x.length ≤ 10 := by
  have stop : ∀ (r : Nat) (out : List (List Sp)), Ev (fun k => purflinglaw07_Cut.j1 k rows out (r : Int) false) out := fun r out => Ev.step (fun k => by rw [purflinglaw07_Cut.j1]) (ev_neg (by decide) (ev_now rfl))
  intro d
  induction d with
  | zero =>
    intro r out h hr ho hx
    refine ⟨out, Ev.step (fun k => by rw [purflinglaw07_Cut.l0]) ?_, by omega, hx⟩
    by_cases q : (r : Int) < (rows.length : Int)
    · refine ev_pos q ?_
      rw [decide_eq_false (by omega)]; exact stop r out
    · exact ev_neg q (stop r out)
  | succ d ih =>
    intro r out h hr ho hx
    by_cases q : (r : Int) < (rows.length : Int)
    · obtain ⟨row, hrow, -⟩ := at_some (xs := rows) (j := r) (by omega)
      obtain ⟨t, ht, hp⟩ := cut_l1 rows out r (by omega) row hrow (by omega) (fun t => t.length ≤ 20 ∧ ∀ x ∈ t, x.length ≤ 10) (fun c hc => ih (r + 1) (out ++ [c]) (by omega) (by omega) (by simp; omega) (fun x hx' => by
        rcases List.mem_append.1 hx' with h1 | h1
        · exact hx x h1
        · rw [List.mem_singleton.1 h1]; exact hc)) 10 0 [] rfl rfl (by omega)
      refine ⟨t, Ev.step (fun k => by rw [purflinglaw07_Cut.l0]) (ev_pos q ?_), hp⟩
      rw [decide_eq_true (by omega)]
      refine Ev.step (fun k => by rw [purflinglaw07_Cut.j1]) ?_
      exact ev_pos rfl ht
    · exact ⟨out, Ev.step (fun k => by rw [purflinglaw07_Cut.l0]) (ev_neg q (stop r out)), by omega, hx⟩
theorem cut_ev (rows : List (List Sp)) : ∃ t, Ev (fun k => purflinglaw07_Cut.f k rows) t ∧ t.length ≤ 20 ∧ ∀ x ∈ t, x.length ≤ 10 := cut_l0 rows 20 0 [] rfl (by omega) rfl (fun x hx => nomatch hx)
theorem cells_len {α : Type} (n : Nat) : ∀ (rows : List (List α)) (r : Nat), (∀ x ∈ rows, x.length ≤ n) → (cellsFrom r rows).length ≤ rows.length * n
  | [], r, h => by simp [cellsFrom]
  | x :: rows, r, h => by
    unfold cellsFrom
    rw [List.length_append, List.length_map, List.length_cons, Nat.add_mul]
    have := cells_len n rows (r + 1) (fun y hy => h y (List.mem_cons_of_mem _ hy))
    have := h x (List.mem_cons_self ..)
    omega
theorem run_len (ends : List Int) : ∀ (xs : List (Nat × Sp)) (s : LSt), (runP ends xs s).ps.length ≤ s.ps.length + xs.length
  | [], s => by simp [runP]
  | x :: xs, s => by
    unfold runP
    have h1 : (stepP ends s x).ps.length = s.ps.length + 1 := by unfold stepP; simp
    split
    · rw [h1, List.length_cons]; omega
    · have := run_len ends xs (stepP ends s x); rw [h1] at this; rw [List.length_cons]; omega
theorem lay_len {rows : List (List Sp)} {ends : List Int} {t : List Pl × Int × Int} (ht : grid_Lay.f rows ends = some t) : t.1.length ≤ (cellsFrom 0 rows).length := by
  have hr := run_len ends (cellsFrom 0 rows) ⟨[], 0, 0, 0⟩
  unfold grid_Lay.f at ht
  split at ht
  · split at ht
    · split at ht
      · have hh := Option.some.inj ht
        rw [← hh]; simp
      · have hh := Option.some.inj ht
        rw [← hh]; dsimp only at hr ⊢; simpa using hr
    · cases ht
  · have hh := Option.some.inj ht
    rw [← hh]; simp
end Go.Proofs.Ytfoocmmjefdojaa.Pure
