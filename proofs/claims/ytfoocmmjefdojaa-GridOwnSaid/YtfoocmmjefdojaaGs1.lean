/- Layer 7: Slots. -/
import Derived.Test.YtfoocmmjefdojaaGrid
import Derived.Test.YtfoocmmjefdojaaGrA
namespace Go.Proofs.Ytfoocmmjefdojaa.K
open Go.RowKit Go.Proofs.YtfoocmmjefdojaaW.PrintWords Go.Proofs.YtfoocmmjefdojaaW.PrintLast Go.Proofs.YtfoocmmjefdojaaW.PrintMore
set_option linter.unusedVariables false
set_option linter.unusedSimpArgs false
attribute [local go_sem] Oper.semAt_some

/-- who has slots: the slots of one place are told -/
def fillP (i : Int) (p1 p2 : Int) : List (Nat × Nat) → List (List Int) → Option (List (List Int))
  | [], m => some m
  | x :: xs, m => if rd (rd_L4 m (p1 + x.1)) (p2 + x.2) ≥ 0 then none else fillP i p1 p2 xs (m.set (p1 + x.1).toNat ((rd_L4 m (p1 + x.1)).set (p2 + x.2).toNat i))
def placeOKB (rows cols : Int) (p : Pl) : Bool := decide (0 ≤ p.f1 ∧ p.f1 ≤ rows) && decide (0 ≤ p.f2 ∧ p.f2 ≤ cols) && decide (1 ≤ p.f3 ∧ p.f3 ≤ rows - p.f1) && decide (1 ≤ p.f4 ∧ p.f4 ≤ cols - p.f2)
def slotsP (rows cols : Int) : Nat → List Pl → List (List Int) → Option (List (List Int))
  | _, [], m => some m
  | i, p :: ps, m => if placeOKB rows cols p = true then (fillP i p.f1 p.f2 (slotsOf p.f3.toNat p.f4.toNat) m).bind (slotsP rows cols (i + 1) ps) else none
def sizesB (rows cols : Int) : Bool := decide (0 ≤ rows ∧ rows ≤ 65536) && decide (0 ≤ cols ∧ cols ≤ 10000) && decide (rows * cols ≤ 1000000)
def slE : Option (List (List Int)) → Int | some _ => 0 | none => 70
def slM : Option (List (List Int)) → List (List Int) | some m => m | none => []
def grid_Slots.f (l0 : List Pl) (a1 : Int) (a2 : Int) : Option ((List (List Int)) × Int) :=
  if sizesB a1 a2 = true then some (slM (slotsP a1 a2 0 l0 (List.replicate a1.toNat (List.replicate a2.toNat (-1)))), slE (slotsP a1 a2 0 l0 (List.replicate a1.toNat (List.replicate a2.toNat (-1))))) else some ([], 70)

/-- the table is of the given sizes -/
def DimM (rows cols : Nat) (m : List (List Int)) : Prop := m.length = rows ∧ ∀ x ∈ m, x.length = cols
theorem DimM.set {rows cols : Nat} {m : List (List Int)} (h : DimM rows cols m) (r c i : Int) : DimM rows cols (m.set r.toNat ((rd_L4 m r).set c.toNat i)) := by
  refine ⟨by rw [List.length_set]; exact h.1, fun x hx => ?_⟩
  by_cases hr : r.toNat < m.length
  · rcases List.mem_or_eq_of_mem_set hx with hx | hx
    · exact h.2 x hx
    · rw [hx, List.length_set]
      unfold rd_L4
      rw [List.getD_eq_getElem?_getD, List.getElem?_eq_getElem hr, Option.getD_some]
      exact h.2 _ (List.getElem_mem hr)
  · rw [List.set_eq_of_length_le (by omega)] at hx
    exact h.2 x hx
theorem fillP_dim {rows cols : Nat} (i p1 p2 : Int) : ∀ (xs : List (Nat × Nat)) (m m' : List (List Int)), DimM rows cols m → fillP i p1 p2 xs m = some m' → DimM rows cols m'
  | [], m, m', h, e => by unfold fillP at e; cases e; exact h
  | x :: xs, m, m', h, e => by
    unfold fillP at e
    split at e
    · cases e
    · exact fillP_dim i p1 p2 xs _ m' (h.set _ _ _) e
theorem mem_slots {nr nc : Nat} {x : Nat × Nat} (h : x ∈ slotsOf nr nc) : x.1 < nr ∧ x.2 < nc := by
  unfold slotsOf at h
  have h1 := mem_cells _ 0 x h
  rw [List.length_replicate] at h1
  refine ⟨by omega, ?_⟩
  have key : ∀ (n r : Nat), x ∈ cellsFrom r (List.replicate n (List.range nc)) → x.2 < nc := by
    intro n
    induction n with
    | zero => intro r h; simp [cellsFrom] at h
    | succ n ih =>
      intro r h
      rw [List.replicate_succ] at h
      unfold cellsFrom at h
      rcases List.mem_append.1 h with h | h
      · obtain ⟨c, hc, rfl⟩ := List.mem_map.1 h
        exact List.mem_range.1 hc
      · exact ih _ h
  exact key nr 0 h
theorem rd_dim {rows cols : Nat} {m : List (List Int)} (h : DimM rows cols m) {r c : Int} (hr : 0 ≤ r ∧ r < rows) : (rd_L4 m r).length = cols := by
  unfold rd_L4
  rw [List.getD_eq_getElem?_getD, List.getElem?_eq_getElem (show r.toNat < m.length by rw [h.1]; omega), Option.getD_some]
  exact h.2 _ (List.getElem_mem _)
end Go.Proofs.Ytfoocmmjefdojaa.K
