/- Layer 7, plain: GridFirst. -/
import Derived.Test.YtfoocmmjefdojaaHist
import Derived.Test.YtfoocmmjefdojaaGc
import Derived.Test.YtfoocmmjefdojaaK12
import Derived.Test.YtfoocmmjefdojaaOpens
import Derived.KernelRfl
namespace Go.Proofs.Ytfoocmmjefdojaa.Pure
set_option linter.unusedVariables false
set_option linter.unusedSimpArgs false
open Go.RowKit Go.Proofs.Ytfoocmmjefdojaa.K Go.Proofs.YtfoocmmjefdojaaW.PrintWords Go.Proofs.YtfoocmmjefdojaaW.PrintLast Go.Proofs.YtfoocmmjefdojaaW.PrintMore

theorem shown_ev : Ev (fun k => purflinglaw07_shown.f k) true := by
  have h : purflinglaw07_shown.f 10 = some true := by decide +kernel
  exact Ev.of purflinglaw07_shown.mono h
theorem rdPlq {xs : List Pl} {j : Nat} {x : Pl} (h : xs[j]? = some x) : rd_T40 xs (j : Int) = x := getD_at h
section
variable {ends : List Int} {pre : List (Nat × Sp)} {s : LSt} (hh : HistI ends pre s) (R C : Nat) (m : List (List Int)) (hd : DimM R C m) (ho : Own R C s.ps m) (hC : s.most = C) (hCb : C ≤ 10000) (hl : s.ps.length ≤ 1000000)
  (hrow : ∀ p ∈ s.ps, 0 ≤ p.f1 ∧ p.f1 < R)
include hh hd ho hC hCb hrow
theorem gf_l1 (i : Nat) (p : Pl) (hp : s.ps[i]? = some p) (x : Nat × Sp) (hf : PFact ends (s.ps.take i) p x (fromOf (s.ps.take i) p.f1)) (hmo : p.f2 + p.f4 ≤ s.most) (next : Ev (fun k => purflinglaw07_GridFirst.l0 k true s.ps m (wrap64 ((i : Int) + 1))) true) :
    ∀ (d : Nat) (c : Int), c + d = p.f2 → fromOf (s.ps.take i) p.f1 ≤ c → Ev (fun k => purflinglaw07_GridFirst.l1 k true s.ps m i c) true
  | 0, c, h, hc => by
    have hi := (List.getElem?_eq_some_iff.1 hp).1
    refine Ev.step (fun k => by rw [purflinglaw07_GridFirst.l1]) (ev_pos (by omega) (ev_pos (by omega) ?_))
    rw [rdPlq hp]
    exact ev_neg (by omega) next
  | d + 1, c, h, hc => by
    have hi := (List.getElem?_eq_some_iff.1 hp).1
    have hr := hrow p (List.mem_of_getElem? hp)
    have hfr := hf.fr
    have hw := hf.wide
    have ht := hf.before c hc (by omega)
    obtain ⟨q, hq, hin⟩ := (taken_iff _ _).1 ht
    have hqr := hf.rows q hq
    obtain ⟨j', hj'⟩ := List.getElem?_of_mem hq
    have hj1 : j' < i := by
      have := (List.getElem?_eq_some_iff.1 hj').1
      rw [List.length_take] at this; omega
    rw [List.getElem?_take, if_pos hj1] at hj'
    have hin' := (inP_iff _ _).1 hin
    dsimp only at hin'
    have hown : sl m p.f1 c = j' := by
      rcases ho p.f1 c hr ⟨by omega, by omega⟩ with h1 | ⟨j, q2, hq2, hin2, hv⟩
      · have := (taken_iff s.ps (p.f1, c)).2 ⟨q, List.mem_of_getElem? hj', hin⟩
        rw [h1.2] at this; cases this
      · rw [hist_one hh hj' hq2 hin hin2]; exact hv
    have hrl : (rd_L4 m p.f1).length = C := rd_dim (c := 0) hd hr
    refine Ev.step (fun k => by rw [purflinglaw07_GridFirst.l1]) (ev_pos (by omega) (ev_pos (by omega) ?_))
    rw [rdPlq hp]
    have hml := hd.1
    refine ev_pos (by omega) (ev_pos (by omega) (ev_pos (by omega) (ev_neg (by rw [hrl]; omega) (ev_pos (by omega) (ev_pos (by rw [hrl]; omega) ?_)))))
    rw [show rd (rd_L4 m p.f1) c = (j' : Int) from hown, rdPlq hj']
    refine ev_neg (by omega) (ev_neg (by omega) (ev_pos (by omega) (ev_pos (by omega) (ev_neg (fun h1 => ?_) ?_))))
    · have := hqr.2 (by omega); omega
    · rw [wrap_ok (by omega) (by omega)]
      exact gf_l1 i p hp x hf hmo next d (c + 1) (by omega) (by omega)
include hl
theorem gf_l0 : ∀ (d i : Nat), i + d = s.ps.length → Ev (fun k => purflinglaw07_GridFirst.l0 k true s.ps m i) true
  | 0, i, h => Ev.step (fun k => by rw [purflinglaw07_GridFirst.l0]) (ev_neg (by omega) (ev_now rfl))
  | d + 1, i, h => by
    obtain ⟨p, hp, hpm⟩ := at_some (xs := s.ps) (j := i) (by omega)
    obtain ⟨x, hx, hf, hmo⟩ := hh.each i p hp
    have hfr := hf.fr
    have hw := hf.wide
    have hnext : Ev (fun k => purflinglaw07_GridFirst.l0 k true s.ps m (wrap64 ((i : Int) + 1))) true := by
      rw [up_ok (by omega)]; exact gf_l0 d (i + 1) (by omega)
    have hl1 : Ev (fun k => purflinglaw07_GridFirst.j3 k true s.ps m i (fromOf (s.ps.take i) p.f1)) true :=
      Ev.step (fun k => by rw [purflinglaw07_GridFirst.j3]) (gf_l1 hh R C m hd ho hC hCb hrow i p hp x hf hmo hnext (p.f2 - fromOf (s.ps.take i) p.f1).toNat _ (by omega) (Int.le_refl _))
    refine Ev.step (fun k => by rw [purflinglaw07_GridFirst.l0]) (ev_pos (by omega) ?_)
    by_cases hi : i = 0
    · subst hi
      refine ev_neg (by decide) (Ev.step (fun k => by rw [purflinglaw07_GridFirst.j2]) ?_)
      refine ev_neg (by decide) ?_
      rw [List.take_zero] at hl1
      exact hl1
    · obtain ⟨q, hq, hqm⟩ := at_some (xs := s.ps) (j := i - 1) (by omega)
      obtain ⟨y, _, hfq, hqmo⟩ := hh.each (i - 1) q hq
      have hfr2 := hfq.fr
      have hw2 := hfq.wide
      have hlast : (s.ps.take i).getLast? = some q := by
        rw [List.getLast?_eq_getElem?, List.length_take, Nat.min_eq_left (by omega), List.getElem?_take, if_pos (by omega)]; exact hq
      have hwr : wrap64 ((i : Int) - 1) = ((i - 1 : Nat) : Int) := by rw [wrap_ok (by omega) (by omega)]; omega
      refine ev_pos (by omega) ?_
      rw [hwr]
      refine ev_pos (by omega) (ev_pos (by omega) (ev_pos (by omega) ?_))
      rw [rdPlq hq, rdPlq hp]
      have hfo : fromOf (s.ps.take i) p.f1 = if q.f1 = p.f1 then q.f2 + q.f4 else 0 := by unfold fromOf; rw [hlast]
      refine Ev.step (fun k => by rw [purflinglaw07_GridFirst.j2]) ?_
      rw [hwr, rdPlq hq]
      by_cases e : q.f1 = p.f1
      · rw [hfo, if_pos e] at hl1
        refine ev_pos (by simp [e]) (ev_pos (by omega) (ev_pos (by omega) ?_))
        rw [wrap_ok (by omega) (by omega)]
        exact hl1
      · rw [hfo, if_neg e] at hl1
        exact ev_neg (by simp [e]) hl1
end
theorem GridFirst (l0 : List (List Sp)) (l1 : List Int) (g0 : ∀ x ∈ l0, ∀ y ∈ x, good_34 y) (g1 : ∀ x ∈ l1, (Lit.int .i64 x).wf = true) : ∃ k, purflinglaw07_GridFirst.f k l0 l1 = some true := by
  apply Ev.rounds
  unfold purflinglaw07_GridFirst.f
  obtain ⟨c, hc, hcl, hcr⟩ := cut_ev l0
  have h0 := mn_le l1.length 21 (by decide)
  have hcells : (cellsFrom 0 c).length ≤ 100000 := by
    have h1 := cells_len 10 c 0 hcr
    have h2 : c.length * 10 ≤ 20 * 10 := Nat.mul_le_mul_right _ hcl
    omega
  refine ev_bind shown_ev (ev_bind hc (ev_pos h0.1 (ev_pos h0.2.1 ?_)))
  generalize l1.take (mn (l1.length : Int) 21).toNat = ends
  by_cases hR : gridRightB c ends = true
  · obtain ⟨s, hs⟩ : ∃ s, runP ends (cellsFrom 0 c) ⟨[], 0, 0, 0⟩ = s := ⟨_, rfl⟩
    by_cases hm : s.most > 10000
    · refine ev_bind (ev_const (show grid_Lay.f c ends = some ([], 0, 43) by unfold grid_Lay.f; rw [if_pos hR, if_pos hcells, hs, if_pos hm])) ?_
      exact ev_neg (by decide) (ev_now rfl)
    · obtain ⟨hh, hb⟩ := lay_hist hR (by rw [hs]; omega)
      rw [hs] at hh hb
      have hm0 : 0 ≤ s.most := by have := hb.c0; have := hb.cm; omega
      obtain ⟨C, m, hC, hsl, hd, ho⟩ := lay_slots hR hs (by omega) (by
        have : (c.length : Int) * s.most ≤ 20 * 10000 := Int.mul_le_mul (by omega) (by omega) hm0 (by omega)
        omega)
      have hps : s.ps.length ≤ 1000000 := by rw [hh.len]; omega
      refine ev_bind (ev_const (show grid_Lay.f c ends = some (s.ps, s.most, 0) by unfold grid_Lay.f; rw [if_pos hR, if_pos hcells, hs, if_neg hm])) ?_
      refine ev_pos rfl (ev_bind (ev_const hsl) (ev_pos rfl ?_))
      rw [show ((m.length : Int) != (c.length : Int)) = false by rw [hd.1]; simp]
      refine Ev.step (fun k => by rw [purflinglaw07_GridFirst.j0]) ?_
      refine ev_neg (by decide) ?_
      exact gf_l0 hh c.length C m hd ho hC (by omega) hps (fun p hp => by
        obtain ⟨i, hi⟩ := List.getElem?_of_mem hp
        obtain ⟨x, hx, hf, _⟩ := hh.each i p hi
        have hxm := mem_cells c 0 x (List.mem_of_getElem? hx)
        rw [hf.row]
        omega) s.ps.length 0 (by omega)
  · refine ev_bind (ev_const (show grid_Lay.f c ends = some ([], 0, 70) by unfold grid_Lay.f; rw [if_neg hR])) ?_
    exact ev_neg (by decide) (ev_now rfl)
end Go.Proofs.Ytfoocmmjefdojaa.Pure
