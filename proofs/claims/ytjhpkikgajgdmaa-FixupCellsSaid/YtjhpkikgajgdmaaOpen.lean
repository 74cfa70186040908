/- Generic: what comes in as an argument, told by its kind. No program in sight. -/
import Derived.Test.YtjhpkikgajgdmaaWd2
import Derived.ChangeArms
import Derived.OpenShut
import Derived.WideShapes
import Derived.ChangeSlices
namespace Go.Proofs.Ytjhpkikgajgdmaa
open Go.RowKit Go.Proofs.YtjhpkikgajgdmaaW.PrintWords Go.ChangeShapes Go.WideShapes
set_option linter.unusedVariables false
set_option linter.unusedSimpArgs false

/-- what can be read as data of type t, is told by the kind d, and its numbers are of their kinds -/
def Opens (P : Program) (t : TypeId) {α : Type} (d : Kd α) (g : α → Prop) : Prop :=
  ∀ {H : Type} {enc : TypeId × Value → H} {w : World} {base : Nat} {sp : Nat → Bool} {held : Bool} {fuel : Nat} {cs : List Value} {x : DataW H × List MemPlace},
    DataW.trod enc P w base sp held fuel t cs = some x → ∃ a, d.K w a cs ∧ g a

section
variable {P : Program} {t : TypeId}
theorem opens_int {k : IntKind} (ht : P.underlying t = some (.int k)) : Opens P t (Kd.int k) (fun n => (Lit.int k n).wf = true) := by
  intro H enc w base sp held fuel cs x h
  obtain ⟨n, rfl, -, hw⟩ := DataW.trod_int ht h
  exact ⟨n, rfl, hw⟩
theorem opens_bool (ht : P.underlying t = some .bool) : Opens P t Kd.bool (fun _ => True) := by
  intro H enc w base sp held fuel cs x h
  obtain ⟨n, rfl, -⟩ := DataW.trod_bool ht h
  exact ⟨n, rfl, trivial⟩
theorem mapM_get_ {α β : Type} {f : α → Option β} : ∀ {l : List α} {r : List β}, l.mapM f = some r → ∀ (i : Nat) (a : α), l[i]? = some a → ∃ b, r[i]? = some b ∧ f a = some b
  | [], _, h, i, a, ha => by simp at ha
  | x :: l, r, h, i, a, ha => by
    rw [List.mapM_cons] at h
    simp only [Option.pure_def, Option.bind_eq_bind, Option.bind_eq_some_iff, Option.some.injEq] at h
    obtain ⟨y, hy, ys, hys, rfl⟩ := h
    cases i with
    | zero => simp at ha; subst ha; exact ⟨y, rfl, hy⟩
    | succ i => simp at ha; obtain ⟨b, hb, hf⟩ := mapM_get_ hys i a ha; exact ⟨b, by simpa using hb, hf⟩
theorem mapM_len_ {α β : Type} {f : α → Option β} : ∀ {l : List α} {r : List β}, l.mapM f = some r → r.length = l.length
  | [], r, h => by simp at h; subst h; rfl
  | x :: l, r, h => by
    rw [List.mapM_cons] at h
    simp only [Option.pure_def, Option.bind_eq_bind, Option.bind_eq_some_iff, Option.some.injEq] at h
    obtain ⟨y, hy, ys, hys, rfl⟩ := h
    simp [mapM_len_ hys]
theorem cells_at {w : World} {base n : Nat} {a : Addr} {cs : List Value} (h : w.cells? base a n = some cs) : cs.length = n ∧ ∀ i u, cs[i]? = some u → w.cell? (a.add i) = some u := by
  unfold World.cells? at h
  split at h
  · have hl : cs.length = n := by simpa using mapM_len_ h
    refine ⟨hl, fun i u hu => ?_⟩
    have hi : i < n := by have := (List.getElem?_eq_some_iff.1 hu).1; omega
    obtain ⟨b, hb, hf⟩ := mapM_get_ h i i (by simp [hi])
    rw [hu] at hb
    injection hb with hb
    rw [hb]; exact hf
  · cases h
theorem add_add (a : Addr) (i j : Nat) : (a.add i).add j = a.add (i + j) := by
  unfold Addr.add
  by_cases hi : i = 0
  · subst hi; simp
  · by_cases hj : j = 0
    · subst hj; simp [hi]
    · have : ¬ i + j = 0 := by omega
      simp [hi, hj, this, Nat.add_assoc]
theorem opens_slice {e : TypeId} {α : Type} {d : Kd α} {g : α → Prop} (ht : P.underlying t = some (.slice e)) (hc : P.cellsOf e = d.sz) (he : Opens P e d g) :
    Opens P t (Kd.slice e d) (fun l => ∀ x ∈ l, g x) := by
  intro H enc w base sp held fuel cs x h
  rcases DataW.trod_slice ht h with ⟨rfl, -⟩ | ⟨a, len, cap, elems, rest, n, -, rfl, -, hb, hl, hm, hlen, hel, -, -⟩
  · exact ⟨[], ⟨none, 0, rfl, Nat.le_refl _, rfl, by simp, fun h => absurd h (Nat.lt_irrefl 0)⟩, by simp⟩
  · have each : ∀ i, i < len → ∃ p c, d.K w p c ∧ g p ∧ ∀ j u, c[j]? = some u → w.cell? (a.add (i * d.sz + j)) = some u := by
      intro i hi
      have h1 := hel i hi
      rw [List.getElem?_eq_getElem (by omega), Option.bind_eq_some_iff] at h1
      obtain ⟨c, hcs, hd⟩ := h1
      obtain ⟨p, hp, hg⟩ := he hd
      refine ⟨p, c, hp, hg, fun j u hu => ?_⟩
      have := (cells_at hcs).2 j u hu
      rwa [add_add, hc] at this
    have all : ∀ m, m ≤ len → ∃ l : List α, l.length = m ∧ ∀ i p, l[i]? = some p → ∃ c, d.K w p c ∧ g p ∧ ∀ j u, c[j]? = some u → w.cell? (a.add (i * d.sz + j)) = some u := by
      intro m
      induction m with
      | zero => exact fun _ => ⟨[], rfl, fun i p hp => by simp at hp⟩
      | succ m ih =>
        intro hm
        obtain ⟨l, hl, hp⟩ := ih (by omega)
        obtain ⟨p, c, hk, hg, hc⟩ := each m (by omega)
        refine ⟨l ++ [p], by simp [hl], fun i q hq => ?_⟩
        by_cases hi : i < l.length
        · rw [List.getElem?_append_left hi] at hq; exact hp i q hq
        · have hi2 : i < (l ++ [p]).length := (List.getElem?_eq_some_iff.1 hq).1
          have : i = m := by simp at hi2; omega
          subst this
          have : p = q := by simpa [hl] using hq
          subst this
          exact ⟨c, hk, hg, hc⟩
    obtain ⟨l, hll, hp⟩ := all len (Nat.le_refl _)
    refine ⟨l, ⟨some a, cap, by rw [hll], by rw [hll]; exact hl, rfl, by rw [hll]; exact Nat.le_trans hl (by simpa [maxLen] using hm), fun _ => ⟨a, rfl, fun j p hj => ?_⟩⟩, fun p hpm => ?_⟩
    · obtain ⟨c, hk, -, hcell⟩ := hp j p hj
      exact ⟨c, d.K_len hk, hk, hcell⟩
    · obtain ⟨i, hi⟩ := List.getElem?_of_mem hpm
      obtain ⟨-, -, hg, -⟩ := hp i p hi
      exact hg
/-- one field's cells, ahead of the others' -/
theorem part_next {cs : List Value} (o n : Nat) : cs.drop o = (cs.drop o).take n ++ cs.drop (o + n) := by
  rw [← List.drop_drop]; exact (List.take_append_drop n (cs.drop o)).symm
theorem part_last {cs : List Value} (o n : Nat) (h : cs.length = o + n) : cs.drop o = (cs.drop o).take n := by
  rw [List.take_of_length_le (by rw [List.length_drop]; omega)]
end
end Go.Proofs.Ytjhpkikgajgdmaa
