/- Layer 7: GridOwn, the walk and the plain law joined. -/
import Derived.Test.YtfoocmmjefdojaaGow
import Derived.Test.YtfoocmmjefdojaaHist
import Derived.Test.YtfoocmmjefdojaaGc
import Derived.Test.YtfoocmmjefdojaaOpens
import Derived.KernelRfl
namespace Go.Proofs.Ytfoocmmjefdojaa.Pure
set_option linter.unusedVariables false
set_option linter.unusedSimpArgs false
open Go.RowKit Go.Proofs.Ytfoocmmjefdojaa.K Go.Proofs.YtfoocmmjefdojaaW.PrintWords Go.Proofs.YtfoocmmjefdojaaW.PrintLast Go.Proofs.YtfoocmmjefdojaaW.PrintMore

theorem cell_at : ∀ (rows : List (List Sp)) (r i j : Nat) (row : List Sp) (x : Sp), rows[i]? = some row → row[j]? = some x → (cellsFrom r rows)[(cellsFrom r (rows.take i)).length + j]? = some (r + i, x)
  | [], r, i, j, row, x, h1, h2 => by simp at h1
  | y :: ys, r, 0, j, row, x, h1, h2 => by
    rw [List.getElem?_cons_zero] at h1
    cases h1
    have hj := (List.getElem?_eq_some_iff.1 h2).1
    show ((y.map (fun c => (r, c)) ++ cellsFrom (r + 1) ys))[(cellsFrom r ([] : List (List Sp))).length + j]? = some (r + 0, x)
    rw [show (cellsFrom r ([] : List (List Sp))).length = 0 from rfl, Nat.zero_add, List.getElem?_append_left (by rw [List.length_map]; exact hj), List.getElem?_map, h2]; rfl
  | y :: ys, r, i + 1, j, row, x, h1, h2 => by
    rw [List.getElem?_cons_succ] at h1
    rw [List.take_succ_cons, cellsFrom, cellsFrom, List.length_append, List.length_map]
    rw [List.getElem?_append_right (by rw [List.length_map]; omega), List.length_map]
    have := cell_at ys (r + 1) i j row x h1 h2
    rw [show y.length + (cellsFrom (r + 1) (ys.take i)).length + j - y.length = (cellsFrom (r + 1) (ys.take i)).length + j by omega, this]
    congr 2; omega
theorem own_facts {c : List (List Sp)} {ends : List Int} (hR : gridRightB c ends = true) {s : LSt} (hh : HistI ends (cellsFrom 0 c) s) (hb : BdS s) (hm : s.most ≤ 10000) (i j : Nat) (row : List Sp) (x : Sp) (hrow : c[i]? = some row) (hx : row[j]? = some x) :
    ∃ p e q, OwnF s.ps ends i j (offs c i + j) x p e q := by
  have hc := cell_at c 0 i j row x hrow hx
  rw [Nat.zero_add] at hc
  have hk : (cellsFrom 0 c)[offs c i + j]? = some (i, x) := hc
  have hkl := (List.getElem?_eq_some_iff.1 hk).1
  rw [← hh.len] at hkl
  obtain ⟨p, hp⟩ : ∃ p, s.ps[offs c i + j]? = some p := ⟨_, List.getElem?_eq_getElem hkl⟩
  obtain ⟨y, hy, hf, hmo⟩ := hh.each _ p hp
  rw [hk] at hy
  cases hy
  obtain ⟨e, he, he1, he2, hc1, hc2⟩ := right_end hR (x := (i, x)) (List.mem_of_getElem? hk)
  have hhi := hf.high
  dsimp only at he he1
  rw [List.getD_eq_getElem?_getD] at hhi
  dsimp only at hhi
  rw [he, Option.getD_some] at hhi
  have hrw := hf.row
  dsimp only at hrw
  have hprev : 0 < j → ∃ q, s.ps[offs c i + j - 1]? = some q ∧ (0 ≤ q.f2 ∧ q.f2 ≤ 100000) ∧ (0 ≤ q.f4 ∧ q.f4 ≤ 100000) ∧ q.f2 + q.f4 ≤ p.f2 := fun hj => by
    obtain ⟨x', hx'⟩ : ∃ x', row[j - 1]? = some x' := ⟨_, List.getElem?_eq_getElem (by have := (List.getElem?_eq_some_iff.1 hx).1; omega)⟩
    have hc' := cell_at c 0 i (j - 1) row x' hrow hx'
    rw [Nat.zero_add] at hc'
    have hk' : (cellsFrom 0 c)[offs c i + j - 1]? = some (i, x') := by rw [show offs c i + j - 1 = offs c i + (j - 1) by omega]; exact hc'
    obtain ⟨q, hq⟩ : ∃ q, s.ps[offs c i + j - 1]? = some q := ⟨_, List.getElem?_eq_getElem (by omega)⟩
    obtain ⟨y, hy, hfq, hqm⟩ := hh.each _ q hq
    rw [hk'] at hy
    cases hy
    have hq1 := hfq.row
    dsimp only at hq1
    have hqf := hfq.fr
    have hqw := hfq.wide
    have hmem : q ∈ s.ps.take (offs c i + j) := List.mem_of_getElem? (i := offs c i + j - 1) (by rw [List.getElem?_take, if_pos (by omega)]; exact hq)
    have h1 := (hf.rows q hmem).2 (by rw [hq1, hrw])
    have h2 := hf.fr
    exact ⟨q, hq, by omega, by omega, by omega⟩
  by_cases hj : 0 < j
  · obtain ⟨q, h1, h2, h3, h4⟩ := hprev hj
    exact ⟨p, e, q, ⟨hp, hf.node, hrw, by omega, hf.wide, he, fun _ => ⟨by omega, h1, h2, h3, h4⟩⟩⟩
  · exact ⟨p, e, p, ⟨hp, hf.node, hrw, by omega, hf.wide, he, fun h => absurd h hj⟩⟩
theorem shown_ev : Ev (fun k => purflinglaw07_shown.f k) true := by
  have h : purflinglaw07_shown.f 10 = some true := by decide +kernel
  exact Ev.of purflinglaw07_shown.mono h
end Go.Proofs.Ytfoocmmjefdojaa.Pure
namespace Go.Proofs.Ytfoocmmjefdojaa.K
open Go.RowKit Go.Proofs.YtfoocmmjefdojaaW.PrintWords Go.Proofs.YtfoocmmjefdojaaW.PrintLast Go.Proofs.YtfoocmmjefdojaaW.PrintMore Go.Proofs.Ytfoocmmjefdojaa.Pure
set_option linter.unusedVariables false
set_option linter.unusedSimpArgs false
theorem ownlaw_any (l0 : List (List Sp)) (l1 : List Int) (A0 A1 : Option Addr) (c0 c1 : Nat) (w : World) (hr0 : Kd.C (Kd.slice 34 k34) w A0 l0.length l0) (hc0 : l0.length ≤ c0) (hr1 : Kd.C (Kd.int .i64) w A1 l1.length l1) (hc1 : l1.length ≤ c1) :
    Calls Try.prog 5 #[.slice A0 l0.length c0, .slice A1 l1.length c1] w fun e w' => e = .returned (.bool true) ∧ Below w.heap.size w w' := by
  obtain ⟨ks, hs⟩ := Ev.rounds shown_ev
  obtain ⟨c, hce, hcl, hcr⟩ := cut_ev l0
  obtain ⟨kc, hcut⟩ := Ev.rounds hce
  obtain ⟨tt, htt, htl⟩ : ∃ tt : Nat, (if 21 < (l1.length : Int) then (21 : Int) else (l1.length : Int)) = (tt : Int) ∧ tt ≤ l1.length := by
    by_cases h : 21 < (l1.length : Int)
    · exact ⟨21, by rw [if_pos h]; rfl, by omega⟩
    · exact ⟨l1.length, by rw [if_neg h], Nat.le_refl _⟩
  have hcells : (cellsFrom 0 c).length ≤ 100000 := by
    have h1 := cells_len 10 c 0 hcr
    have h2 : c.length * 10 ≤ 20 * 10 := Nat.mul_le_mul_right _ hcl
    omega
  by_cases hR : gridRightB c (l1.take tt) = true
  · obtain ⟨s, hrun⟩ : ∃ s, runP (l1.take tt) (cellsFrom 0 c) ⟨[], 0, 0, 0⟩ = s := ⟨_, rfl⟩
    by_cases hm : s.most > 10000
    · exact ownlaw_no l0 c l1 tt htt htl A0 A1 c0 c1 w hr0 hc0 hr1 hc1 ks kc hs hcut 43 (by decide) (by unfold grid_Lay.f; rw [if_pos hR, if_pos hcells, hrun, if_pos hm])
    · obtain ⟨hh, hb⟩ := lay_hist hR (by rw [hrun]; omega)
      rw [hrun] at hh hb
      have hm0 : 0 ≤ s.most := by have := hb.c0; have := hb.cm; omega
      obtain ⟨C, m, hC, hsl, -, -⟩ := lay_slots hR hrun (by omega) (by
        have : (c.length : Int) * s.most ≤ 20 * 10000 := Int.mul_le_mul (by omega) (by omega) hm0 (by omega)
        omega)
      exact ownlaw_yes l0 c l1 tt htt htl A0 A1 c0 c1 w hr0 hc0 hr1 hc1 ks kc hs hcut s.ps s.most m (by unfold grid_Lay.f; rw [if_pos hR, if_pos hcells, hrun, if_neg hm]) hsl
        (by rw [hh.len]; unfold offs; rw [List.take_length]) (by rw [hh.len]; omega) (by omega) (fun row hr => by have := hcr row hr; omega) (fun i j row x h1 h2 => own_facts hR hh hb (by omega) i j row x h1 h2)
  · exact ownlaw_no l0 c l1 tt htt htl A0 A1 c0 c1 w hr0 hc0 hr1 hc1 ks kc hs hcut 70 (by decide) (by unfold grid_Lay.f; rw [if_neg hR])
def purflinglaw07_GridOwn.f (l0 : List (List Sp)) (l1 : List Int) : Option Bool := some true
theorem purflinglaw07_GridOwn.calls (A0 : Option Addr) (c0 : Nat) (l0 : List (List (S34))) (A1 : Option Addr) (c1 : Nat) (l1 : List Int) (r : Bool) (w : World) (hr0 : Kd.C (Kd.slice 34 k34) w A0 l0.length l0) (hc0 : l0.length ≤ c0) (hr1 : Kd.C (Kd.int .i64) w A1 l1.length l1) (hc1 : l1.length ≤ c1) (h : purflinglaw07_GridOwn.f l0 l1 = some r) :
    Calls Try.prog 5 #[.slice A0 l0.length c0, .slice A1 l1.length c1] w fun e w' => e = .returned (.bool r) ∧ Below w.heap.size w w' := by
  cases h
  exact ownlaw_any l0 l1 A0 A1 c0 c1 w hr0 hc0 hr1 hc1
end Go.Proofs.Ytfoocmmjefdojaa.K
namespace Go.Proofs.Ytfoocmmjefdojaa.Pure
open Go.RowKit Go.Proofs.Ytfoocmmjefdojaa.K
set_option linter.unusedVariables false
theorem GridOwn (l0 : List (List Sp)) (l1 : List Int) (g0 : ∀ x ∈ l0, ∀ y ∈ x, good_34 y) (g1 : ∀ x ∈ l1, (Lit.int .i64 x).wf = true) : purflinglaw07_GridOwn.f l0 l1 = some true := rfl
end Go.Proofs.Ytfoocmmjefdojaa.Pure
