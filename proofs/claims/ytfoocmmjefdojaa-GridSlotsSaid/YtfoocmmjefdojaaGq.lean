/- Layer 7, plain: the reference's Slots, Empty, as told. -/
import Derived.Test.YtfoocmmjefdojaaEv
import Derived.Test.YtfoocmmjefdojaaSlots
import Derived.Test.YtfoocmmjefdojaaK13
namespace Go.Proofs.Ytfoocmmjefdojaa.Pure
set_option linter.unusedVariables false
set_option linter.unusedSimpArgs false
open Go.RowKit Go.Proofs.Ytfoocmmjefdojaa.K Go.Proofs.YtfoocmmjefdojaaW.PrintWords Go.Proofs.YtfoocmmjefdojaaW.PrintLast Go.Proofs.YtfoocmmjefdojaaW.PrintMore

theorem rdPlq {xs : List Pl} {j : Nat} {x : Pl} (h : xs[j]? = some x) : rd_T40 xs (j : Int) = x := getD_at h
def ansO (o : Option (List (List Int))) : List (List Int) × Int := (slM o, slE o)
theorem rdL4 {xs : List (List Int)} {j : Nat} {x : List Int} (h : xs[j]? = some x) : rd_L4 xs (j : Int) = x := getD_at h

section
variable (l0 : List Pl) (R C : Nat)
theorem ref_l4 (i P1 P2 nr nc a : Nat) (p0 : Int) (ha : P1 + a < R) (h2 : P2 + nc ≤ C) (hC : C ≤ 100000) (hR : R ≤ 100000) (tail : List (Nat × Nat)) (ps : List Pl)
    (next : ∀ m, DimM R C m → Ev (fun k => purflingref07_Slots.l3 k l0 R C m i (wrap64 (((P1 + a : Nat) : Int) + 1)) p0 P1 P2 nr nc) (ansO ((fillP i P1 P2 tail m).bind (slotsP R C (i + 1) ps)))) :
    ∀ (d b : Nat) (m : List (List Int)), b + d = nc → DimM R C m → Ev (fun k => purflingref07_Slots.l4 k l0 R C m i ((P1 + a : Nat) : Int) ((P2 + b : Nat) : Int) p0 P1 P2 nr nc) (ansO ((fillP i P1 P2 ((List.range' b d).map (fun c => (a, c)) ++ tail) m).bind (slotsP R C (i + 1) ps)))
  | 0, b, m, h, hm => by
    refine Ev.step (fun k => by rw [purflingref07_Slots.l4]) (ev_neg ?_ (next m hm))
    rw [wrap_ok (by omega) (by omega)]; omega
  | d + 1, b, m, h, hm => by
    have hrow : (rd_L4 m ((P1 + a : Nat) : Int)).length = C := rd_dim (c := 0) hm ⟨by omega, by omega⟩
    have hml := hm.1
    refine Ev.step (fun k => by rw [purflingref07_Slots.l4]) (ev_pos (by rw [wrap_ok (by omega) (by omega)]; omega) (ev_pos (by omega) (ev_pos (by omega) (ev_pos (by omega) (ev_pos (by rw [hrow]; omega) ?_)))))
    rw [List.range'_succ, List.map_cons, List.cons_append]
    have hf : fillP i P1 P2 ((a, b) :: ((List.range' (b + 1) d).map (fun c => (a, c)) ++ tail)) m = if rd (rd_L4 m ((P1 + a : Nat) : Int)) ((P2 + b : Nat) : Int) ≥ 0 then none else fillP i P1 P2 ((List.range' (b + 1) d).map (fun c => (a, c)) ++ tail) (m.set (P1 + a) ((rd_L4 m ((P1 + a : Nat) : Int)).set (P2 + b) i)) := by
      conv => lhs; unfold fillP
      rfl
    rw [hf]
    by_cases q : rd (rd_L4 m ((P1 + a : Nat) : Int)) ((P2 + b : Nat) : Int) ≥ 0
    · exact ev_pos q (ev_now (by rw [if_pos q]; rfl))
    · refine ev_neg q ?_
      rw [if_neg q, up_ok (by omega)]
      exact ref_l4 i P1 P2 nr nc a p0 ha h2 hC hR tail ps next d (b + 1) _ (by omega) (hm.set ((P1 + a : Nat) : Int) ((P2 + b : Nat) : Int) i)
theorem ref_l3 (i P1 P2 nr nc : Nat) (p0 : Int) (h1 : P1 + nr ≤ R) (h2 : P2 + nc ≤ C) (hC : C ≤ 100000) (hR : R ≤ 100000) (ps : List Pl)
    (next : ∀ m, DimM R C m → Ev (fun k => purflingref07_Slots.l2 k l0 R C m (wrap64 ((i : Int) + 1))) (ansO (slotsP R C (i + 1) ps m))) :
    ∀ (d a : Nat) (m : List (List Int)), a + d = nr → DimM R C m → Ev (fun k => purflingref07_Slots.l3 k l0 R C m i ((P1 + a : Nat) : Int) p0 P1 P2 nr nc) (ansO ((fillP i P1 P2 (cellsFrom a (List.replicate d (List.range nc))) m).bind (slotsP R C (i + 1) ps)))
  | 0, a, m, h, hm => by
    refine Ev.step (fun k => by rw [purflingref07_Slots.l3]) (ev_neg ?_ (next m hm))
    rw [wrap_ok (by omega) (by omega)]; omega
  | d + 1, a, m, h, hm => by
    refine Ev.step (fun k => by rw [purflingref07_Slots.l3]) (ev_pos (by rw [wrap_ok (by omega) (by omega)]; omega) ?_)
    rw [List.replicate_succ, cellsFrom, List.range_eq_range']
    refine ref_l4 l0 R C i P1 P2 nr nc a p0 (by omega) h2 hC hR _ ps (fun m' hm' => ?_) nc 0 m (by omega) hm
    rw [up_ok (by omega), ← List.range_eq_range']
    exact ref_l3 i P1 P2 nr nc p0 h1 h2 hC hR ps next d (a + 1) m' (by omega) hm'
theorem ref_l2 (hl : l0.length ≤ 1000000) (hC : C ≤ 100000) (hR : R ≤ 100000) : ∀ (d i : Nat) (m : List (List Int)), i + d = l0.length → DimM R C m → Ev (fun k => purflingref07_Slots.l2 k l0 R C m (i : Int)) (ansO (slotsP R C i (l0.drop i) m))
  | 0, i, m, h, hm => by
    refine Ev.step (fun k => by rw [purflingref07_Slots.l2]) (ev_neg (by omega) (ev_now ?_))
    rw [List.drop_of_length_le (by omega)]; rfl
  | d + 1, i, m, h, hm => by
    obtain ⟨p, hp, -⟩ := at_some (xs := l0) (j := i) (by omega)
    refine Ev.step (fun k => by rw [purflingref07_Slots.l2]) (ev_pos (by omega) (ev_pos (by omega) ?_))
    rw [rdPlq hp]
    have hd : l0.drop i = p :: l0.drop (i + 1) := by
      obtain ⟨h1, h2⟩ := List.getElem?_eq_some_iff.1 hp
      rw [List.drop_eq_getElem_cons h1, h2]
    rw [hd]
    have bad : placeOKB R C p = false → ansO (slotsP R C i (p :: l0.drop (i + 1)) m) = ([], 70) := fun hb => by
      unfold slotsP; rw [if_neg (by rw [hb]; decide)]; rfl
    have no : placeOKB R C p = false → Ev (fun k => purflingref07_Slots.j4 k l0 R C m i true p.f0 p.f1 p.f2 p.f3 p.f4) (ansO (slotsP R C i (p :: l0.drop (i + 1)) m)) := fun hb =>
      Ev.step (fun k => by rw [purflingref07_Slots.j4]) (ev_pos rfl (ev_now (bad hb).symm))
    have nok : ∀ hb : ¬ ((0 ≤ p.f1 ∧ p.f1 ≤ R) ∧ (0 ≤ p.f2 ∧ p.f2 ≤ C) ∧ (1 ≤ p.f3 ∧ p.f3 ≤ R - p.f1) ∧ (1 ≤ p.f4 ∧ p.f4 ≤ C - p.f2)), placeOKB R C p = false := fun hb => by
      unfold placeOKB
      rw [← Bool.decide_and, ← Bool.decide_and, ← Bool.decide_and]
      exact decide_eq_false (fun h => hb ⟨h.1.1.1, h.1.1.2, h.1.2, h.2⟩)
    by_cases q1 : p.f3 < 1
    · exact ev_pos q1 (no (nok (by omega)))
    refine ev_neg q1 ?_
    by_cases q2 : p.f4 < 1
    · exact ev_pos q2 (no (nok (by omega)))
    refine ev_neg q2 ?_
    by_cases q3 : p.f1 < 0
    · exact ev_pos q3 (no (nok (by omega)))
    refine ev_neg q3 ?_
    by_cases q4 : p.f2 < 0
    · exact ev_pos q4 (no (nok (by omega)))
    refine ev_neg q4 ?_
    by_cases q5 : p.f1 > (R : Int)
    · exact ev_pos q5 (no (nok (by omega)))
    refine ev_neg q5 ?_
    by_cases q6 : p.f2 > (C : Int)
    · exact ev_pos q6 (no (nok (by omega)))
    refine ev_neg q6 ?_
    rw [wrap_ok (by omega) (by omega), wrap_ok (by omega) (by omega)]
    by_cases q7 : p.f3 > (R : Int) - p.f1
    · exact ev_pos q7 (no (nok (by omega)))
    refine ev_neg q7 ?_
    by_cases q8 : p.f4 > (C : Int) - p.f2
    · rw [decide_eq_true q8]; exact no (nok (by omega))
    rw [decide_eq_false q8]
    have hok : placeOKB R C p = true := by
      unfold placeOKB
      simp only [Bool.and_eq_true, decide_eq_true_eq]; omega
    obtain ⟨p0, p1, p2, p3, p4⟩ := p
    dsimp only at *
    obtain ⟨P1, rfl⟩ := Int.eq_ofNat_of_zero_le (show 0 ≤ p1 by omega)
    obtain ⟨P2, rfl⟩ := Int.eq_ofNat_of_zero_le (show 0 ≤ p2 by omega)
    obtain ⟨nr, rfl⟩ := Int.eq_ofNat_of_zero_le (show 0 ≤ p3 by omega)
    obtain ⟨nc, rfl⟩ := Int.eq_ofNat_of_zero_le (show 0 ≤ p4 by omega)
    have hs : slotsP R C i (⟨p0, P1, P2, nr, nc⟩ :: l0.drop (i + 1)) m = (fillP i P1 P2 (slotsOf nr nc) m).bind (slotsP R C (i + 1) (l0.drop (i + 1))) := by
      conv => lhs; unfold slotsP
      rw [if_pos hok]; rfl
    rw [hs]
    refine Ev.step (fun k => by rw [purflingref07_Slots.j4]) (ev_neg (by decide) ?_)
    refine ref_l3 l0 R C i P1 P2 nr nc p0 (by omega) (by omega) hC hR (l0.drop (i + 1)) (fun m' hm' => ?_) nr 0 m (by omega) hm
    rw [up_ok (by omega)]
    exact ref_l2 hl hC hR d (i + 1) m' (by omega) hm'
theorem ref_l1 (r : Nat) (m : List (List Int)) (hm : m.length ≤ 100000) (hC : C ≤ 100000) (res : List (List Int) × Int) (next : Ev (fun k => purflingref07_Slots.l0 k l0 R C (m ++ [List.replicate C (-1)]) (wrap64 ((r : Int) + 1))) res) :
    ∀ (d q : Nat), q + d = C → Ev (fun k => purflingref07_Slots.l1 k l0 R C m r (List.replicate q (-1)) q) res
  | 0, q, h => by
    obtain rfl : q = C := by omega
    exact Ev.step (fun k => by rw [purflingref07_Slots.l1]) (ev_neg (by omega) (ev_pos (by omega) next))
  | d + 1, q, h => by
    refine Ev.step (fun k => by rw [purflingref07_Slots.l1]) (ev_pos (by omega) (ev_pos (by rw [List.length_replicate]; omega) ?_))
    rw [up_ok (by omega), ← List.replicate_succ']
    exact ref_l1 r m hm hC res next d (q + 1) (by omega)
theorem ref_l0 (hl : l0.length ≤ 1000000) (hC : C ≤ 100000) (hR : R ≤ 100000) : ∀ (d r : Nat), r + d = R → Ev (fun k => purflingref07_Slots.l0 k l0 R C (List.replicate r (List.replicate C (-1))) r) (ansO (slotsP R C 0 l0 (List.replicate R (List.replicate C (-1)))))
  | 0, r, h => by
    obtain rfl : r = R := by omega
    refine Ev.step (fun k => by rw [purflingref07_Slots.l0]) (ev_neg (by omega) ?_)
    exact ref_l2 l0 r C hl hC hR l0.length 0 _ (by omega) ⟨List.length_replicate, fun x hx => by rw [(List.mem_replicate.1 hx).2, List.length_replicate]⟩
  | d + 1, r, h => by
    refine Ev.step (fun k => by rw [purflingref07_Slots.l0]) (ev_pos (by omega) ?_)
    refine ref_l1 l0 R C r _ (by rw [List.length_replicate]; omega) hC _ ?_ C 0 (by omega)
    rw [up_ok (by omega), ← List.replicate_succ']
    exact ref_l0 hl hC hR d (r + 1) (by omega)
end
theorem slots_ev (l0 : List Pl) (a1 a2 : Int) (hl : l0.length ≤ 1000000) : ∃ t, grid_Slots.f l0 a1 a2 = some t ∧ Ev (fun k => purflingref07_Slots.f k l0 a1 a2) t := by
  unfold grid_Slots.f purflingref07_Slots.f
  have no : Ev (fun k => purflingref07_Slots.j0 k l0 a1 a2 true) (([] : List (List Int)), (70 : Int)) := Ev.step (fun k => by rw [purflingref07_Slots.j0]) (ev_pos rfl (ev_now rfl))
  have nok : ¬ ((0 ≤ a1 ∧ a1 ≤ 65536) ∧ (0 ≤ a2 ∧ a2 ≤ 10000) ∧ a1 * a2 ≤ 1000000) → sizesB a1 a2 = false := fun hb => by
    unfold sizesB
    rw [← Bool.decide_and, ← Bool.decide_and]
    exact decide_eq_false (fun h => hb ⟨h.1.1, h.1.2, h.2⟩)
  have bad : ¬ ((0 ≤ a1 ∧ a1 ≤ 65536) ∧ (0 ≤ a2 ∧ a2 ≤ 10000) ∧ a1 * a2 ≤ 1000000) → ∃ t, (if sizesB a1 a2 = true then some (slM (slotsP a1 a2 0 l0 (List.replicate a1.toNat (List.replicate a2.toNat (-1)))), slE (slotsP a1 a2 0 l0 (List.replicate a1.toNat (List.replicate a2.toNat (-1))))) else some (([] : List (List Int)), (70 : Int))) = some t ∧ Ev (fun k => purflingref07_Slots.j0 k l0 a1 a2 true) t := fun hb =>
    ⟨_, if_neg (by rw [nok hb]; decide), no⟩
  by_cases q1 : a1 < 0
  · obtain ⟨t, h1, h2⟩ := bad (by omega); exact ⟨t, h1, ev_pos q1 h2⟩
  by_cases q2 : a1 > 65536
  · obtain ⟨t, h1, h2⟩ := bad (by omega); exact ⟨t, h1, ev_neg q1 (ev_pos q2 h2)⟩
  by_cases q3 : a2 < 0
  · obtain ⟨t, h1, h2⟩ := bad (by omega); exact ⟨t, h1, ev_neg q1 (ev_neg q2 (ev_pos q3 h2))⟩
  by_cases q4 : a2 > 10000
  · obtain ⟨t, h1, h2⟩ := bad (by omega); exact ⟨t, h1, ev_neg q1 (ev_neg q2 (ev_neg q3 (ev_pos q4 h2)))⟩
  have hmul : a1 * a2 ≤ 65536 * 10000 := Int.mul_le_mul (by omega) (by omega) (by omega) (by omega)
  have hmul0 : 0 ≤ a1 * a2 := Int.mul_nonneg (by omega) (by omega)
  rw [wrap_ok (by omega) (by omega)]
  by_cases q5 : a1 * a2 > 1000000
  · obtain ⟨t, h1, h2⟩ := bad (by omega)
    exact ⟨t, h1, ev_neg q1 (ev_neg q2 (ev_neg q3 (ev_neg q4 (by rw [decide_eq_true q5]; exact h2))))⟩
  refine ⟨_, if_pos (by unfold sizesB; simp only [Bool.and_eq_true, decide_eq_true_eq]; omega), ev_neg q1 (ev_neg q2 (ev_neg q3 (ev_neg q4 ?_)))⟩
  rw [decide_eq_false q5]
  obtain ⟨R, rfl⟩ := Int.eq_ofNat_of_zero_le (show 0 ≤ a1 by omega)
  obtain ⟨C, rfl⟩ := Int.eq_ofNat_of_zero_le (show 0 ≤ a2 by omega)
  rw [Int.toNat_natCast, Int.toNat_natCast]
  refine Ev.step (fun k => by rw [purflingref07_Slots.j0]) (ev_neg (by decide) ?_)
  exact ref_l0 l0 R C hl (by omega) (by omega) R 0 (by omega)

theorem drop_at {α : Type} {xs : List α} {j : Nat} {x : α} (h : xs[j]? = some x) : xs.drop j = x :: xs.drop (j + 1) := by
  obtain ⟨h1, h2⟩ := List.getElem?_eq_some_iff.1 h
  rw [List.drop_eq_getElem_cons h1, h2]
end Go.Proofs.Ytfoocmmjefdojaa.Pure
