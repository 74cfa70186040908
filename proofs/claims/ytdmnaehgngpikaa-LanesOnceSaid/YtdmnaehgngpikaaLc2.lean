/- Layer 6, plain: a table's rows, told by its parts. -/
import Derived.Test.YtdmnaehgngpikaaLaC
import Derived.Test.YtdmnaehgngpikaaTrCf
namespace Go.Proofs.Ytdmnaehgngpikaa.K
open Go.RowKit Go.Proofs.YtdmnaehgngpikaaW.PrintWords Go.Proofs.YtdmnaehgngpikaaW.PrintLast Go.Proofs.YtdmnaehgngpikaaW.PrintMore
set_option linter.unusedVariables false
set_option linter.unusedSimpArgs false
theorem kids_eq (l : List Nd) (a : Int) : kidsOf l a = (rd_T48 l a).f1 := rfl
theorem kind_eq (l : List Nd) (a : Int) : kindOf l a = (rd_T48 l a).f0 := rfl
/-- a part's rows -/
def laneOf (l : List Nd) (k : Int) : List S35 := if kindOf l k = 9 then [⟨k, -1⟩] else rowsP l k.toNat
def isPart (l : List Nd) (k : Int) : Bool := ([9, 6, 7, 8] : List Int).contains (kindOf l k)
theorem isPart_iff (l : List Nd) (k : Int) : isPart l k = true ↔ kindOf l k = 9 ∨ kindOf l k = 6 ∨ kindOf l k = 7 ∨ kindOf l k = 8 := by unfold isPart; simp
def oneP (k : Int) : List Int := if 0 ≤ k then [k] else []
/-- what stands between the first head and the first foot -/
def midK (l : List Nd) (a : Nat) : List Int := (kidsK l a [9, 6, 7, 8]).filter (fun k => k ≠ firstK l a 6 && k ≠ firstK l a 8)
/-- a table's parts in their rows' order -/
def partsK (l : List Nd) (a : Nat) : List Int := oneP (firstK l a 6) ++ midK l a ++ oneP (firstK l a 8)
theorem first_mem {l : List Nd} {a : Nat} {k : Int} (h : 0 ≤ firstK l a k) : firstK l a k ∈ kidsOf l a ∧ kindOf l (firstK l a k) = k := by
  unfold firstK at h ⊢
  cases q : kidsK l a [k] with
  | nil => rw [q] at h; simp at h
  | cons y ys =>
    have hy : y ∈ kidsK l a [k] := by rw [q]; exact List.mem_cons_self ..
    obtain ⟨h1, h2⟩ := List.mem_filter.1 hy
    exact ⟨h1, by simpa using h2⟩
theorem foldl_parts (l : List Nd) (a : Nat) : ∀ (ks : List Int) (st : List S35 × List S35), (∀ k ∈ ks, isPart l k = true) →
    ks.foldl (partP l a) st = (st.1 ++ (ks.filter (fun k => k ≠ firstK l a 6 && k ≠ firstK l a 8)).flatMap (laneOf l), if firstK l a 8 ∈ ks ∧ firstK l a 8 ≠ firstK l a 6 then rowsP l (firstK l a 8).toNat else st.2)
  | [], st, _ => by simp
  | k :: ks, st, h => by
    rw [List.foldl_cons, foldl_parts l a ks _ (fun x hx => h x (List.mem_cons_of_mem _ hx))]
    unfold partP
    by_cases q6 : k = firstK l a 6
    · rw [if_pos q6, List.filter_cons_of_neg (by simp [q6])]
      congr 1
      by_cases q : firstK l a 8 ∈ ks ∧ firstK l a 8 ≠ firstK l a 6
      · rw [if_pos q, if_pos ⟨List.mem_cons_of_mem _ q.1, q.2⟩]
      · rw [if_neg q, if_neg (fun h => q ⟨(List.mem_cons.1 h.1).resolve_left (fun e => h.2 (e.trans q6)), h.2⟩)]
    · rw [if_neg q6]
      by_cases q8 : k = firstK l a 8
      · rw [if_pos q8, List.filter_cons_of_neg (by simp [q8])]
        congr 1
        dsimp only
        rw [if_pos (show firstK l a 8 ∈ k :: ks ∧ _ from ⟨by rw [← q8]; exact List.mem_cons_self .., fun e => q6 (q8.trans e)⟩), q8]
        split <;> rfl
      · rw [if_neg q8, List.filter_cons_of_pos (by simp [q6, q8]), List.flatMap_cons]
        have hmem : (firstK l a 8 ∈ k :: ks ∧ firstK l a 8 ≠ firstK l a 6) ↔ (firstK l a 8 ∈ ks ∧ firstK l a 8 ≠ firstK l a 6) := by
          rw [List.mem_cons]
          exact ⟨fun h => ⟨h.1.resolve_left (fun e => q8 e.symm), h.2⟩, fun h => ⟨.inr h.1, h.2⟩⟩
        simp only [hmem]
        unfold laneOf
        by_cases q9 : kindOf l k = 9
        · rw [if_pos q9, if_pos q9]
          dsimp only
          rw [List.append_assoc]
        · rw [if_neg q9, if_neg q9]
          dsimp only
          rw [List.append_assoc]
theorem kidsK_part (l : List Nd) (a : Int) : ∀ k ∈ kidsK l a [9, 6, 7, 8], isPart l k = true := fun k hk => (List.mem_filter.1 hk).2
theorem laneRows_eq {l : List Nd} {a : Nat} (hki : KidsIn l) (ha : a < l.length) : laneRowsP l a = (partsK l a).flatMap (laneOf l) := by
  unfold laneRowsP
  dsimp only
  rw [foldl_parts l a _ _ (kidsK_part l a)]
  unfold partsK
  rw [List.flatMap_append, List.flatMap_append]
  have hH : (oneP (firstK l a 6)).flatMap (laneOf l) = headP l a := by
    unfold oneP headP
    by_cases q : 0 ≤ firstK l a 6
    · rw [if_pos q, if_pos q]
      unfold laneOf
      simp [(first_mem q).2]
    · rw [if_neg q, if_neg q]; rfl
  have hF : (oneP (firstK l a 8)).flatMap (laneOf l) = if firstK l a 8 ∈ kidsK l a [9, 6, 7, 8] ∧ firstK l a 8 ≠ firstK l a 6 then rowsP l (firstK l a 8).toNat else [] := by
    unfold oneP
    by_cases q : 0 ≤ firstK l a 8
    · obtain ⟨h1, h2⟩ := first_mem q
      have hne : firstK l a 8 ≠ firstK l a 6 := fun e => by
        rw [e] at q h2
        have := (first_mem q).2
        rw [h2] at this
        exact absurd this (by decide)
      rw [if_pos q, if_pos ⟨List.mem_filter.2 ⟨h1, by rw [h2]; rfl⟩, hne⟩]
      unfold laneOf
      simp [h2]
    · rw [if_neg q, if_neg]
      · rfl
      · rintro ⟨h, -⟩
        exact q (kidsIn_of hki (by omega : (0 : Int) ≤ (a : Int)) (by omega) _ (List.mem_filter.1 h).1).1
  rw [hH, hF]
  rfl
/-- what is known of a table's parts -/
theorem parts_mem {l : List Nd} {a : Nat} (hki : KidsIn l) (ha : a < l.length) : ∀ k, k ∈ partsK l a ↔ k ∈ kidsK l a [9, 6, 7, 8] := by
  intro k
  unfold partsK oneP midK
  have hkid : ∀ c : Int, c = 6 ∨ c = 8 → 0 ≤ firstK l a c → firstK l a c ∈ kidsK l a [9, 6, 7, 8] := fun c hc q => by
    obtain ⟨h1, h2⟩ := first_mem q
    exact List.mem_filter.2 ⟨h1, by rw [h2]; rcases hc with rfl | rfl <;> rfl⟩
  constructor
  · intro h
    rw [List.mem_append, List.mem_append] at h
    rcases h with (h | h) | h
    · split at h
      · rename_i q; rw [List.mem_singleton.1 h]; exact hkid 6 (.inl rfl) q
      · cases h
    · exact (List.mem_filter.1 h).1
    · split at h
      · rename_i q; rw [List.mem_singleton.1 h]; exact hkid 8 (.inr rfl) q
      · cases h
  · intro h
    have h0 := (kidsIn_of hki (by omega : (0 : Int) ≤ (a : Int)) (by omega) _ (List.mem_filter.1 h).1).1
    rw [List.mem_append, List.mem_append]
    by_cases q6 : k = firstK l a 6
    · rw [if_pos (by rw [← q6]; exact h0)]
      exact .inl (.inl (List.mem_singleton.2 q6))
    · by_cases q8 : k = firstK l a 8
      · rw [if_pos (show 0 ≤ firstK l a 8 by rw [← q8]; exact h0)]
        exact .inr (List.mem_singleton.2 q8)
      · exact .inl (.inr (List.mem_filter.2 ⟨h, by simp [q6, q8]⟩))
theorem first_ne {l : List Nd} {a : Nat} (h6 : 0 ≤ firstK l a 6) (h8 : 0 ≤ firstK l a 8) : firstK l a 6 ≠ firstK l a 8 := fun e => by
  have h1 := (first_mem h6).2
  have h2 := (first_mem h8).2
  rw [e, h2] at h1
  exact absurd h1 (by decide)
theorem kidsK_nodup {l : List Nd} (ht : Tidy l) (a : Nat) (ks : List Int) : (kidsK l a ks).Nodup := List.Pairwise.filter _ (ht.nodup _ (by omega))
theorem parts_nodup {l : List Nd} {a : Nat} (ht : Tidy l) : (partsK l a).Nodup := by
  unfold partsK
  have hm : (midK l a).Nodup := List.Pairwise.filter _ (kidsK_nodup ht a _)
  have hne : ∀ k ∈ midK l a, k ≠ firstK l a 6 ∧ k ≠ firstK l a 8 := fun k hk => by
    have := (List.mem_filter.1 hk).2
    simpa using this
  have ho : ∀ c : Int, (oneP c).Nodup := fun c => by unfold oneP; split <;> simp
  have hom : ∀ c x : Int, x ∈ oneP c → x = c ∧ 0 ≤ c := fun c x hx => by
    unfold oneP at hx
    split at hx
    · rename_i q; exact ⟨List.mem_singleton.1 hx, q⟩
    · cases hx
  rw [List.nodup_append, List.nodup_append]
  refine ⟨⟨ho _, hm, ?_⟩, ho _, ?_⟩
  · intro x hx y hy e
    subst e
    exact (hne x hy).1 (hom _ _ hx).1
  · intro x hx y hy e
    subst e
    obtain ⟨e8, h8⟩ := hom _ _ hy
    rcases List.mem_append.1 hx with h | h
    · obtain ⟨e6, h6⟩ := hom _ _ h
      exact first_ne h6 h8 (e6.symm.trans e8)
    · exact (hne x h).2 e8
theorem parts_perm {l : List Nd} {a : Nat} (ht : Tidy l) (hki : KidsIn l) (ha : a < l.length) : (partsK l a).Perm (kidsK l a [9, 6, 7, 8]) :=
  (List.perm_ext_iff_of_nodup (parts_nodup ht) (kidsK_nodup ht a _)).2 (parts_mem hki ha)
/-- a row is a kid of the table, or of one of its groups -/
theorem lane_mem {l : List Nd} {k : Int} (hki : KidsIn l) (hk : 0 ≤ k ∧ k < (l.length : Int)) {x : S35} (hx : x ∈ laneOf l k) :
    (0 ≤ x.f0 ∧ x.f0 < (l.length : Int)) ∧ kindOf l x.f0 = 9 ∧ ((x = ⟨k, -1⟩ ∧ kindOf l k = 9) ∨ (x.f1 = k ∧ kindOf l k ≠ 9 ∧ x.f0 ∈ kidsOf l k)) := by
  unfold laneOf at hx
  split at hx
  · rename_i q
    rw [List.mem_singleton.1 hx]
    exact ⟨hk, q, .inl ⟨rfl, q⟩⟩
  · rename_i q
    obtain ⟨n, rfl⟩ := Int.eq_ofNat_of_zero_le hk.1
    rw [Int.toNat_natCast] at hx
    unfold rowsP at hx
    obtain ⟨y, hy, rfl⟩ := List.mem_map.1 hx
    obtain ⟨h1, h2⟩ := List.mem_filter.1 hy
    have h3 : kindOf l y = 9 := by simpa using h2
    exact ⟨kidsIn_of hki (by omega) (by omega) y h1, h3, .inr ⟨rfl, q, h1⟩⟩
theorem part_range {l : List Nd} {a : Nat} (hki : KidsIn l) (ha : a < l.length) {k : Int} (h : k ∈ partsK l a) : 0 ≤ k ∧ k < (l.length : Int) :=
  kidsIn_of hki (by omega : (0 : Int) ≤ (a : Int)) (by omega) _ (List.mem_filter.1 ((parts_mem hki ha k).1 h)).1
theorem rows_mem {l : List Nd} {a : Nat} (hki : KidsIn l) (ha : a < l.length) {x : S35} (hx : x ∈ laneRowsP l a) :
    (0 ≤ x.f0 ∧ x.f0 < (l.length : Int)) ∧ kindOf l x.f0 = 9 ∧ (-1 ≤ x.f1 ∧ x.f1 < (l.length : Int)) := by
  rw [laneRows_eq hki ha] at hx
  obtain ⟨k, hk, hx⟩ := List.mem_flatMap.1 hx
  have hr := part_range hki ha hk
  obtain ⟨h1, h2, h3⟩ := lane_mem hki hr hx
  refine ⟨h1, h2, ?_⟩
  rcases h3 with ⟨rfl, -⟩ | ⟨h3, -, -⟩
  · exact ⟨by show (-1 : Int) ≤ -1; omega, by show (-1 : Int) < _; omega⟩
  · rw [h3]; omega
theorem rd_int {xs : List Int} {j : Nat} {x : Int} (h : xs[j]? = some x) : rd xs (j : Int) = x := by unfold rd; rw [Int.toNat_natCast, List.getD_eq_getElem?_getD, h]; rfl
theorem rd_ln {rows : List S35} {i : Nat} {x : S35} (h : rows[i]? = some x) : rd_T35 rows (i : Int) = x := by unfold rd_T35; rw [Int.toNat_natCast, List.getD_eq_getElem?_getD, h]; rfl
theorem rows_small {L : List Nd} (hK : ∀ n ∈ L, n.f1.length ≤ 30) (a : Nat) : (laneRowsP L a).length ≤ 100000 := by
  unfold laneRowsP
  dsimp only
  have hK0 : ∀ n ∈ L, n.f1.length ≤ 1000 := fun n hn => by have := hK n hn; omega
  have h1 := parts_len hK0 a (kidsK L a [9, 6, 7, 8]) (headP L a, []) 1 (by show (headP L a).length ≤ _; unfold headP; split; have := rowsP_len hK0 (firstK L a 6).toNat; omega; simp) (by simp)
  have h2 := kidsK_len L a [9, 6, 7, 8] (fun n hn => by have := hK n hn; omega)
  have h3 : (kidsK L a [9, 6, 7, 8]).length ≤ 30 := by
    unfold kidsK
    refine Nat.le_trans (List.length_filter_le ..) ?_
    unfold kidsOf rd_T48
    rw [List.getD_eq_getElem?_getD]
    cases q : L[(a : Int).toNat]? with
    | none => simp [z48]
    | some x => exact hK x (List.mem_of_getElem? q)
  rw [List.length_append]
  have := h1.1
  have := h1.2
  omega
theorem kids_small {L : List Nd} (hK : ∀ n ∈ L, n.f1.length ≤ 30) (a : Int) : (kidsOf L a).length ≤ 30 := by
  unfold kidsOf rd_T48
  rw [List.getD_eq_getElem?_getD]
  cases q : L[a.toNat]? with
  | none => simp [z48]
  | some x => exact hK x (List.mem_of_getElem? q)
theorem cut_rowsf (l : List Nd) (a : Int) : lanes_Rows.f (cutL l) a = some (if checkL (cutL l) a = 0 then (laneRowsP (cutL l) a.toNat, 0) else ([], checkL (cutL l) a)) := by
  unfold lanes_Rows.f
  rw [if_pos ⟨cut_links l, fun n hn => by have := cut_kids l n hn; omega⟩]
end Go.Proofs.Ytdmnaehgngpikaa.K
