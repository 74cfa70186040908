/- Layer 4, plain: chains, chains with one link more, stars. -/
import Derived.Test.YtdmnaehgngpikaaTrB
namespace Go.Proofs.Ytdmnaehgngpikaa.K
open Go.RowKit
set_option linter.unusedVariables false
set_option linter.unusedSimpArgs false
theorem right_nd0 (ks : List Int) : rightN (nd0 0 ks) = true := by rfl
/-- a page of plain blocks -/
def plainL (g : Nat → List Int) (n : Nat) : List Nd := (List.range n).map (fun i => nd0 0 (g i))
theorem plain_len (g : Nat → List Int) (n : Nat) : (plainL g n).length = n := by unfold plainL; rw [List.length_map, List.length_range]
theorem plain_get (g : Nat → List Int) {n i : Nat} (h : i < n) : (plainL g n)[i]? = some (nd0 0 (g i)) := by unfold plainL; rw [List.getElem?_map, List.getElem?_range h]; rfl
theorem plain_right (g : Nat → List Int) (n : Nat) : ∀ x ∈ plainL g n, rightN x = true := fun x hx => by
  obtain ⟨i, -, rfl⟩ := List.mem_map.1 hx
  exact right_nd0 _
theorem plain_kids (g : Nat → List Int) {n i : Nat} (h : i < n) : kidsOf (plainL g n) ((i : Nat) : Int) = g i := kidsOf_nat (plain_get g h)
theorem plain_links (g : Nat → List Int) (n : Nat) (hg : ∀ i, i < n → ∀ k ∈ g i, 1 ≤ k ∧ k < (n : Int)) : ∀ x ∈ linksOf (plainL g n), badLink (plainL g n).length x = false := by
  rintro ⟨r, k⟩ hx
  obtain ⟨y, hy, hk⟩ := mem_links.1 hx
  have hr : r < n := by have := (List.getElem?_eq_some_iff.1 hy).1; rwa [plain_len] at this
  rw [plain_get g hr] at hy
  obtain rfl := Option.some.inj hy
  have := hg r hr k hk
  unfold badLink
  rw [plain_len]
  simp; omega
theorem sum_range_zero : ∀ (m : Nat) (f : Nat → Nat), (∀ j, j < m → f j = 0) → ((List.range m).map f).sum = 0
  | 0, f, _ => rfl
  | m + 1, f, h => by
    rw [List.range_succ, List.map_append, List.sum_append, List.map_singleton, List.sum_singleton, sum_range_zero m f (fun j hj => h j (by omega)), h m (by omega)]
theorem sum_range_one : ∀ (m : Nat) (f : Nat → Nat) (i : Nat), i < m → (∀ j, j < m → j ≠ i → f j = 0) → ((List.range m).map f).sum = f i
  | 0, f, i, h, _ => by omega
  | m + 1, f, i, h, hz => by
    rw [List.range_succ, List.map_append, List.sum_append, List.map_singleton, List.sum_singleton]
    by_cases e : i = m
    · subst e
      have : ((List.range i).map f).sum = 0 := by
        exact sum_range_zero i f (fun j hj => hz j (by omega) (by omega))
      omega
    · rw [sum_range_one m f i (by omega) (fun j hj hji => hz j (by omega) hji), hz m (by omega) (by omega)]
      rfl
theorem plain_cnt (g : Nat → List Int) (n : Nat) (k : Int) : cntL (linksOf (plainL g n)) k = ((((List.range n).map (fun i => (g i).count k)).sum : Nat) : Int) := by
  unfold cntL linksOf
  rw [count_cells]
  unfold plainL
  rw [List.map_map, List.map_map]
  rfl
theorem dep_kid {l : List Nd} (hk : KidsIn l) (ht : Tidy l) (hn : 0 < l.length) {p x : Int} (hp : 0 ≤ p) (hx : x ∈ kidsOf l p) (hr : 0 < (walkP l).dep x) : (walkP l).dep x = (walkP l).dep p + 1 := by
  have hw := walk_ok l hk hn
  obtain ⟨i, hi⟩ := List.getElem?_of_mem ((hw.mem x).2 hr)
  rcases hw.back i x hi with ⟨rfl, -⟩ | ⟨j, p', hj, hp', hkp, hd⟩
  · exact absurd hx (ht.root p hp)
  · have hp0 : 0 ≤ p' := by
      rcases hw.back j p' hp' with ⟨rfl, -⟩ | ⟨j', p'', -, -, hk', -⟩
      · omega
      · unfold kidsOf rd_T48 at hk'
        rw [List.getD_eq_getElem?_getD] at hk'
        cases q : l[p''.toNat]? with
        | none => rw [q] at hk'; exact absurd hk' (by show p' ∉ (z48).f1; simp [z48])
        | some y => rw [q] at hk'; exact (hk y (List.mem_of_getElem? q) p' hk').1
    rw [hd, ht.one p p' x hp hp0 hx hkp]
theorem dep_root {l : List Nd} (hk : KidsIn l) (ht : Tidy l) (hn : 0 < l.length) : (walkP l).dep 0 = 1 := by
  have hw := walk_ok l hk hn
  obtain ⟨i, hi⟩ := List.getElem?_of_mem ((hw.mem 0).2 ((hw.reach 0).2 (Reach.root l)))
  rcases hw.back i 0 hi with ⟨-, h⟩ | ⟨j, p', hj, hp', hkp, hd⟩
  · exact h
  · exfalso
    rcases hw.back j p' hp' with ⟨rfl, -⟩ | ⟨j', p'', -, -, hk', -⟩
    · exact ht.root 0 (by omega) hkp
    · unfold kidsOf rd_T48 at hk'
      rw [List.getD_eq_getElem?_getD] at hk'
      cases q : l[p''.toNat]? with
      | none => rw [q] at hk'; exact absurd hk' (by show p' ∉ (z48).f1; simp [z48])
      | some y => rw [q] at hk'; exact ht.root p' (hk y (List.mem_of_getElem? q) p' hk').1 hkp
/-- a star -/
def starK (n : Nat) (i : Nat) : List Int := if i = 0 then (List.range (n - 1)).map (fun j => ((j + 1 : Nat) : Int)) else []
def starL (n : Nat) : List Nd := plainL (starK n) n
theorem starK_mem {n i : Nat} {k : Int} (h : k ∈ starK n i) : i = 0 ∧ ∃ j : Nat, j < n - 1 ∧ k = ((j + 1 : Nat) : Int) := by
  unfold starK at h
  split at h
  · rename_i q
    obtain ⟨j, hj, rfl⟩ := List.mem_map.1 h
    exact ⟨q, j, List.mem_range.1 hj, rfl⟩
  · simp at h
theorem star_links (n : Nat) : ∀ x ∈ linksOf (starL n), badLink (starL n).length x = false := plain_links _ _ (fun i hi k hk => by obtain ⟨-, j, hj, rfl⟩ := starK_mem hk; omega)
theorem nodup_up (m : Nat) : ((List.range m).map (fun j => ((j + 1 : Nat) : Int))).Nodup := by
  rw [List.nodup_iff_count]
  intro a
  by_cases h : a ∈ (List.range m).map (fun j => ((j + 1 : Nat) : Int))
  · have hp : ((List.range m).map (fun j => ((j + 1 : Nat) : Int))).Pairwise (fun a b => a ≠ b) := by
      rw [List.pairwise_map]
      exact List.nodup_range.imp (fun h => by omega)
    have := List.nodup_iff_count.1 hp a
    exact this
  · rw [List.count_eq_zero.2 h]; omega
theorem star_times {n : Nat} : ∀ i : Nat, 0 < i → i < (starL n).length → cntL (linksOf (starL n)) i = 1 := fun i hi hl => by
  rw [show (starL n).length = n from plain_len _ _] at hl
  show cntL (linksOf (plainL (starK n) n)) i = 1
  rw [plain_cnt, sum_range_one n (fun j => (starK n j).count ((i : Nat) : Int)) 0 (by omega) (fun j hj hne => by show (starK n j).count ((i : Nat) : Int) = 0; unfold starK; rw [if_neg hne]; rfl)]
  show (((starK n 0).count ((i : Nat) : Int) : Nat) : Int) = 1
  unfold starK
  rw [if_pos rfl]
  have h1 := List.nodup_iff_count.1 (nodup_up (n - 1)) ((i : Nat) : Int)
  have h2 : 0 < ((List.range (n - 1)).map (fun j => ((j + 1 : Nat) : Int))).count ((i : Nat) : Int) := List.count_pos_iff.2 (List.mem_map.2 ⟨i - 1, List.mem_range.2 (by omega), by congr 1; omega⟩)
  omega
theorem star_ok {n : Nat} (hn : 0 < n) (h65 : n ≤ 65536) : PageOK (starL n) := by
  have hl : (starL n).length = n := plain_len _ _
  have hk := kidsIn_links (star_links n)
  have h0 : 0 < (starL n).length := by omega
  have ht := tidy_of (star_links n) star_times
  have hw := walk_ok _ hk h0
  have hkid : ∀ i : Nat, 0 < i → i < n → ((i : Nat) : Int) ∈ kidsOf (starL n) 0 := fun i hi hin => by
    show ((i : Nat) : Int) ∈ kidsOf (plainL (starK n) n) ((0 : Nat) : Int)
    rw [plain_kids _ hn]; unfold starK; rw [if_pos rfl]
    exact List.mem_map.2 ⟨i - 1, List.mem_range.2 (by omega), by congr 1; omega⟩
  have hd : ∀ i : Nat, i < n → 0 < (walkP (starL n)).dep i ∧ (walkP (starL n)).dep i ≤ 2 := fun i hi => by
    have hd0 := dep_root hk ht h0
    by_cases e : i = 0
    · subst e; exact ⟨by show 0 < (walkP (starL n)).dep 0; omega, by show (walkP (starL n)).dep 0 ≤ 2; omega⟩
    · have hr := (hw.reach _).2 ((Reach.root _).kid (hkid i (by omega) hi))
      have := dep_kid hk ht h0 (by omega) (hkid i (by omega) hi) hr
      omega
  exact ⟨h0, by omega, plain_right _ _, star_links n, star_times, fun i hi => (hd i (by omega)).1, fun i hi => by have := (hd i (by omega)).2; omega⟩
end Go.Proofs.Ytdmnaehgngpikaa.K
