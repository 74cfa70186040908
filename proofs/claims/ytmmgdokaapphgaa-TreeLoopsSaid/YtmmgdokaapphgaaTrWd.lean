/- Layer 4, plain: chains, chains with one link more, stars. -/
import Derived.Test.YtmmgdokaapphgaaTrB
namespace Go.Proofs.Ytmmgdokaapphgaa.K
open Go.RowKit
set_option linter.unusedVariables false
set_option linter.unusedSimpArgs false

theorem right_nd0 (ks : List Int) : rightN (nd0 0 ks) = true := by rfl
/-- a page of plain blocks -/
def plainL (g : Nat → List Int) (n : Nat) : List Nd := (List.range n).map (fun i => nd0 0 (g i))
theorem plain_len (g : Nat → List Int) (n : Nat) : (plainL g n).length = n := by unfold plainL; rw [List.length_map, List.length_range]
theorem plain_get (g : Nat → List Int) {n i : Nat} (h : i < n) : (plainL g n)[i]? = some (nd0 0 (g i)) := by unfold plainL; rw [List.getElem?_map, List.getElem?_range h]; rfl
theorem plain_right (g : Nat → List Int) (n : Nat) : ∀ x ∈ plainL g n, rightN x = true := fun x hx => by
  obtain ⟨i, -, rfl⟩ := List.mem_map.1 hx
  exact right_nd0 _
theorem plain_kids (g : Nat → List Int) {n i : Nat} (h : i < n) : kidsOf (plainL g n) ((i : Nat) : Int) = g i := kidsOf_nat (plain_get g h)
theorem plain_links (g : Nat → List Int) (n : Nat) (hg : ∀ i, i < n → ∀ k ∈ g i, 1 ≤ k ∧ k < (n : Int)) : ∀ x ∈ linksOf (plainL g n), badLink (plainL g n).length x = false := by
  rintro ⟨r, k⟩ hx
  obtain ⟨y, hy, hk⟩ := mem_links.1 hx
  have hr : r < n := by have := (List.getElem?_eq_some_iff.1 hy).1; rwa [plain_len] at this
  rw [plain_get g hr] at hy
  obtain rfl := Option.some.inj hy
  have := hg r hr k hk
  unfold badLink
  rw [plain_len]
  simp; omega
theorem sum_range_zero : ∀ (m : Nat) (f : Nat → Nat), (∀ j, j < m → f j = 0) → ((List.range m).map f).sum = 0
  | 0, f, _ => rfl
  | m + 1, f, h => by
    rw [List.range_succ, List.map_append, List.sum_append, List.map_singleton, List.sum_singleton, sum_range_zero m f (fun j hj => h j (by omega)), h m (by omega)]
theorem sum_range_one : ∀ (m : Nat) (f : Nat → Nat) (i : Nat), i < m → (∀ j, j < m → j ≠ i → f j = 0) → ((List.range m).map f).sum = f i
  | 0, f, i, h, _ => by omega
  | m + 1, f, i, h, hz => by
    rw [List.range_succ, List.map_append, List.sum_append, List.map_singleton, List.sum_singleton]
    by_cases e : i = m
    · subst e
      have : ((List.range i).map f).sum = 0 := by
        exact sum_range_zero i f (fun j hj => hz j (by omega) (by omega))
      omega
    · rw [sum_range_one m f i (by omega) (fun j hj hji => hz j (by omega) hji), hz m (by omega) (by omega)]
      rfl
theorem plain_cnt (g : Nat → List Int) (n : Nat) (k : Int) : cntL (linksOf (plainL g n)) k = ((((List.range n).map (fun i => (g i).count k)).sum : Nat) : Int) := by
  unfold cntL linksOf
  rw [count_cells]
  unfold plainL
  rw [List.map_map, List.map_map]
  rfl
theorem check_zero {l : List Nd} (h : PageOK l) : checkP l = (0, 0) := by
  have hq := (ok_iff l).2 h
  revert hq
  unfold checkP checkK checkC checkD
  repeat' split
  all_goals simp
theorem dep_kid {l : List Nd} (hk : KidsIn l) (ht : Tidy l) (hn : 0 < l.length) {p x : Int} (hp : 0 ≤ p) (hx : x ∈ kidsOf l p) (hr : 0 < (walkP l).dep x) : (walkP l).dep x = (walkP l).dep p + 1 := by
  have hw := walk_ok l hk hn
  obtain ⟨i, hi⟩ := List.getElem?_of_mem ((hw.mem x).2 hr)
  rcases hw.back i x hi with ⟨rfl, -⟩ | ⟨j, p', hj, hp', hkp, hd⟩
  · exact absurd hx (ht.root p hp)
  · have hp0 : 0 ≤ p' := by
      rcases hw.back j p' hp' with ⟨rfl, -⟩ | ⟨j', p'', -, -, hk', -⟩
      · omega
      · unfold kidsOf rd_T42 at hk'
        rw [List.getD_eq_getElem?_getD] at hk'
        cases q : l[p''.toNat]? with
        | none => rw [q] at hk'; exact absurd hk' (by show p' ∉ (z42).f1; simp [z42])
        | some y => rw [q] at hk'; exact (hk y (List.mem_of_getElem? q) p' hk').1
    rw [hd, ht.one p p' x hp hp0 hx hkp]
theorem dep_root {l : List Nd} (hk : KidsIn l) (ht : Tidy l) (hn : 0 < l.length) : (walkP l).dep 0 = 1 := by
  have hw := walk_ok l hk hn
  obtain ⟨i, hi⟩ := List.getElem?_of_mem ((hw.mem 0).2 ((hw.reach 0).2 (Reach.root l)))
  rcases hw.back i 0 hi with ⟨-, h⟩ | ⟨j, p', hj, hp', hkp, hd⟩
  · exact h
  · exfalso
    rcases hw.back j p' hp' with ⟨rfl, -⟩ | ⟨j', p'', -, -, hk', -⟩
    · exact ht.root 0 (by omega) hkp
    · unfold kidsOf rd_T42 at hk'
      rw [List.getD_eq_getElem?_getD] at hk'
      cases q : l[p''.toNat]? with
      | none => rw [q] at hk'; exact absurd hk' (by show p' ∉ (z42).f1; simp [z42])
      | some y => rw [q] at hk'; exact ht.root p' (hk y (List.mem_of_getElem? q) p' hk').1 hkp

/-- a chain -/
def chainK (n : Nat) (i : Nat) : List Int := if i + 1 < n then [((i + 1 : Nat) : Int)] else []
def chainL (n : Nat) : List Nd := plainL (chainK n) n
theorem chainK_mem {n i : Nat} {k : Int} (h : k ∈ chainK n i) : i + 1 < n ∧ k = ((i + 1 : Nat) : Int) := by
  unfold chainK at h
  split at h
  · rename_i q; exact ⟨q, List.mem_singleton.1 h⟩
  · simp at h
theorem chain_links (n : Nat) : ∀ x ∈ linksOf (chainL n), badLink (chainL n).length x = false := plain_links _ _ (fun i hi k hk => by obtain ⟨h, rfl⟩ := chainK_mem hk; omega)
theorem chain_count {n i : Nat} (j : Nat) : (chainK n i).count ((j : Nat) : Int) = if i + 1 = j ∧ i + 1 < n then 1 else 0 := by
  unfold chainK
  by_cases q : i + 1 < n
  · rw [if_pos q]
    by_cases e : i + 1 = j
    · rw [if_pos ⟨e, q⟩, e]; simp
    · rw [if_neg (by omega), List.count_singleton, if_neg (by simp; omega)]
  · rw [if_neg q, if_neg (by omega)]; rfl
theorem chain_times {n : Nat} : ∀ i : Nat, 0 < i → i < (chainL n).length → cntL (linksOf (chainL n)) i = 1 := fun i hi hl => by
  rw [show (chainL n).length = n from plain_len _ _] at hl
  show cntL (linksOf (plainL (chainK n) n)) i = 1
  rw [plain_cnt, sum_range_one n (fun j => (chainK n j).count ((i : Nat) : Int)) (i - 1) (by omega) (fun j hj hne => by show (chainK n j).count ((i : Nat) : Int) = 0; rw [chain_count, if_neg (by omega)])]
  show (((chainK n (i - 1)).count ((i : Nat) : Int) : Nat) : Int) = 1
  rw [chain_count, if_pos (by omega)]; rfl
theorem chain_reach {n : Nat} : ∀ i : Nat, i < n → Reach (chainL n) ((i : Nat) : Int)
  | 0, _ => Reach.root _
  | i + 1, h => (chain_reach i (by omega)).kid (by show ((i + 1 : Nat) : Int) ∈ kidsOf (plainL (chainK n) n) ((i : Nat) : Int); rw [plain_kids _ (by omega)]; unfold chainK; rw [if_pos h]; simp)
theorem chain_dep {n : Nat} (hn : 0 < n) : ∀ i : Nat, i < n → (walkP (chainL n)).dep ((i : Nat) : Int) = i + 1 := by
  have hk := kidsIn_links (chain_links n)
  have hl : (chainL n).length = n := plain_len _ _
  have ht := tidy_of (chain_links n) chain_times
  have h0 : 0 < (chainL n).length := by omega
  intro i
  induction i with
  | zero => intro _; have := dep_root hk ht h0; simpa using this
  | succ i ih =>
    intro h
    have hkid : ((i + 1 : Nat) : Int) ∈ kidsOf (chainL n) ((i : Nat) : Int) := by show ((i + 1 : Nat) : Int) ∈ kidsOf (plainL (chainK n) n) ((i : Nat) : Int); rw [plain_kids _ (by omega)]; unfold chainK; rw [if_pos h]; simp
    have := dep_kid hk ht h0 (by omega) hkid (((walk_ok _ hk h0).reach _).2 (chain_reach (i + 1) h))
    rw [this, ih (by omega)]
    omega
theorem chain_check {n : Nat} (hn : 0 < n) (h70 : n ≤ 70) : checkP (chainL n) = if 64 < n then (64, 42) else (0, 0) := by
  have hl : (chainL n).length = n := plain_len _ _
  have hk := kidsIn_links (chain_links n)
  have h0 : 0 < (chainL n).length := by omega
  by_cases q : 64 < n
  · rw [if_pos q]
    unfold checkP
    rw [if_neg (by omega), firstOf_miss _ _ (fun j z hz => by rw [plain_right _ _ z (List.mem_of_getElem? hz)]; rfl), if_neg (by omega), checkK_ok (chain_links n)]
    unfold checkC
    rw [find_range_miss (fun j hj => by
      rw [hl] at hj
      unfold cycB
      by_cases e : j = 0
      · subst e; rfl
      · rw [chain_times j (by omega) (by omega), chain_dep hn j hj]; simp; intro; omega)]
    show checkD (chainL n) = _
    unfold checkD
    rw [find_range_hit (k := 64) (by omega) (by unfold deepB; rw [chain_dep hn 64 q]; decide) (fun j hj => by unfold deepB; rw [chain_dep hn j (by omega)]; simp; omega)]
    rfl
  · rw [if_neg q]
    exact check_zero ⟨h0, by omega, plain_right _ _, chain_links n, chain_times, fun i hi => by rw [chain_dep hn i (by omega)]; omega, fun i hi => by rw [chain_dep hn i (by omega)]; omega⟩

/-- a star -/
def starK (n : Nat) (i : Nat) : List Int := if i = 0 then (List.range (n - 1)).map (fun j => ((j + 1 : Nat) : Int)) else []
def starL (n : Nat) : List Nd := plainL (starK n) n
theorem starK_mem {n i : Nat} {k : Int} (h : k ∈ starK n i) : i = 0 ∧ ∃ j : Nat, j < n - 1 ∧ k = ((j + 1 : Nat) : Int) := by
  unfold starK at h
  split at h
  · rename_i q
    obtain ⟨j, hj, rfl⟩ := List.mem_map.1 h
    exact ⟨q, j, List.mem_range.1 hj, rfl⟩
  · simp at h
theorem star_links (n : Nat) : ∀ x ∈ linksOf (starL n), badLink (starL n).length x = false := plain_links _ _ (fun i hi k hk => by obtain ⟨-, j, hj, rfl⟩ := starK_mem hk; omega)
theorem nodup_up (m : Nat) : ((List.range m).map (fun j => ((j + 1 : Nat) : Int))).Nodup := by
  rw [List.nodup_iff_count]
  intro a
  by_cases h : a ∈ (List.range m).map (fun j => ((j + 1 : Nat) : Int))
  · have hp : ((List.range m).map (fun j => ((j + 1 : Nat) : Int))).Pairwise (fun a b => a ≠ b) := by
      rw [List.pairwise_map]
      exact List.nodup_range.imp (fun h => by omega)
    have := List.nodup_iff_count.1 hp a
    exact this
  · rw [List.count_eq_zero.2 h]; omega
theorem star_times {n : Nat} : ∀ i : Nat, 0 < i → i < (starL n).length → cntL (linksOf (starL n)) i = 1 := fun i hi hl => by
  rw [show (starL n).length = n from plain_len _ _] at hl
  show cntL (linksOf (plainL (starK n) n)) i = 1
  rw [plain_cnt, sum_range_one n (fun j => (starK n j).count ((i : Nat) : Int)) 0 (by omega) (fun j hj hne => by show (starK n j).count ((i : Nat) : Int) = 0; unfold starK; rw [if_neg hne]; rfl)]
  show (((starK n 0).count ((i : Nat) : Int) : Nat) : Int) = 1
  unfold starK
  rw [if_pos rfl]
  have h1 := List.nodup_iff_count.1 (nodup_up (n - 1)) ((i : Nat) : Int)
  have h2 : 0 < ((List.range (n - 1)).map (fun j => ((j + 1 : Nat) : Int))).count ((i : Nat) : Int) := List.count_pos_iff.2 (List.mem_map.2 ⟨i - 1, List.mem_range.2 (by omega), by congr 1; omega⟩)
  omega
theorem star_ok {n : Nat} (hn : 0 < n) (h65 : n ≤ 65536) : PageOK (starL n) := by
  have hl : (starL n).length = n := plain_len _ _
  have hk := kidsIn_links (star_links n)
  have h0 : 0 < (starL n).length := by omega
  have ht := tidy_of (star_links n) star_times
  have hw := walk_ok _ hk h0
  have hkid : ∀ i : Nat, 0 < i → i < n → ((i : Nat) : Int) ∈ kidsOf (starL n) 0 := fun i hi hin => by
    show ((i : Nat) : Int) ∈ kidsOf (plainL (starK n) n) ((0 : Nat) : Int)
    rw [plain_kids _ hn]; unfold starK; rw [if_pos rfl]
    exact List.mem_map.2 ⟨i - 1, List.mem_range.2 (by omega), by congr 1; omega⟩
  have hd : ∀ i : Nat, i < n → 0 < (walkP (starL n)).dep i ∧ (walkP (starL n)).dep i ≤ 2 := fun i hi => by
    have hd0 := dep_root hk ht h0
    by_cases e : i = 0
    · subst e; exact ⟨by show 0 < (walkP (starL n)).dep 0; omega, by show (walkP (starL n)).dep 0 ≤ 2; omega⟩
    · have hr := (hw.reach _).2 ((Reach.root _).kid (hkid i (by omega) hi))
      have := dep_kid hk ht h0 (by omega) (hkid i (by omega) hi) hr
      omega
  exact ⟨h0, by omega, plain_right _ _, star_links n, star_times, fun i hi => (hd i (by omega)).1, fun i hi => by have := (hd i (by omega)).2; omega⟩
theorem star_check (n : Nat) (hn : 0 < n) : (checkP (starL n)).2 = if n ≤ 65536 then 0 else 43 := by
  by_cases q : n ≤ 65536
  · rw [if_pos q]; exact (ok_iff _).2 (star_ok hn q)
  · rw [if_neg q]
    unfold checkP
    rw [if_pos (.inr (by rw [show (starL n).length = n from plain_len _ _]; omega))]

/-- a chain with a link more -/
def loopK (n f t : Nat) (i : Nat) : List Int := if i = f then chainK n i ++ [((t : Nat) : Int)] else chainK n i
def loopL (n f t : Nat) : List Nd := plainL (loopK n f t) n
theorem loopK_mem {n f t i : Nat} {k : Int} (h : k ∈ loopK n f t i) : (i + 1 < n ∧ k = ((i + 1 : Nat) : Int)) ∨ (i = f ∧ k = ((t : Nat) : Int)) := by
  unfold loopK at h
  split at h
  · rename_i q
    rcases List.mem_append.1 h with h | h
    · exact .inl (chainK_mem h)
    · exact .inr ⟨q, List.mem_singleton.1 h⟩
  · exact .inl (chainK_mem h)
theorem loop_reach {n f t : Nat} : ∀ i : Nat, i < n → Reach (loopL n f t) ((i : Nat) : Int)
  | 0, _ => Reach.root _
  | i + 1, h => (loop_reach i (by omega)).kid (by
    show ((i + 1 : Nat) : Int) ∈ kidsOf (plainL (loopK n f t) n) ((i : Nat) : Int)
    rw [plain_kids _ (by omega)]
    have hc : ((i + 1 : Nat) : Int) ∈ chainK n i := by unfold chainK; rw [if_pos h]; simp
    unfold loopK
    split
    · exact List.mem_append_left _ hc
    · exact hc)
theorem loop_check {n f t : Nat} (h2 : 2 ≤ n) (h60 : n ≤ 60) (hf : f < n) (ht : t < n) : checkP (loopL n f t) = if t = 0 then ((f : Int), 40) else ((t : Int), 41) := by
  have hl : (loopL n f t).length = n := plain_len _ _
  have hP : checkP (loopL n f t) = checkK (loopL n f t) := by
    unfold checkP
    rw [if_neg (by omega), firstOf_miss _ _ (fun j z hz => by rw [plain_right _ _ z (List.mem_of_getElem? hz)]; rfl), if_neg (by omega)]
  rw [hP]
  by_cases q : t = 0
  · rw [if_pos q]
    subst q
    have hrow : ((loopL n f 0).map (fun n => n.f1))[f]? = some (chainK n f ++ [0]) := by
      show ((plainL (loopK n f 0) n).map (fun n => n.f1))[f]? = _
      rw [List.getElem?_map, plain_get _ hf]
      show some (loopK n f 0 f) = _
      unfold loopK; rw [if_pos rfl]; rfl
    obtain ⟨rest, hs⟩ := cells_split (m := (chainK n f).length) (c := (0 : Int)) hrow (by rw [List.getElem?_append_right (Nat.le_refl _), Nat.sub_self]; rfl)
    refine (checkK_bad (l := loopL n f 0) (x := (f, 0)) hs (fun y hy => ?_) (by unfold badLink; simp)).trans rfl
    have hmem : ∀ (r : Nat) (k : Int), (r, k) ∈ cellsFrom 0 (((loopL n f 0).map (fun n => n.f1)).take f) → r < f ∧ k ∈ loopK n f 0 r := by
      intro r k hrk
      have h1 : (r, k) ∈ cellsFrom 0 ((((loopL n f 0).take f).map (fun n => n.f1))) := by rw [List.map_take]; exact hrk
      obtain ⟨z, hz, hkz⟩ := (mem_links (l := (loopL n f 0).take f)).1 h1
      rw [List.getElem?_take] at hz
      split at hz
      · rename_i hrf
        have hrn : r < n := by omega
        rw [show loopL n f 0 = plainL (loopK n f 0) n from rfl, plain_get _ hrn] at hz
        obtain rfl := Option.some.inj hz
        exact ⟨hrf, hkz⟩
      · cases hz
    obtain ⟨r, k⟩ := y
    have hgood : 1 ≤ k ∧ k < (n : Int) := by
      rcases List.mem_append.1 hy with hy | hy
      · obtain ⟨hr, hk⟩ := hmem r k hy
        rcases loopK_mem hk with ⟨h1, rfl⟩ | ⟨h1, -⟩
        · omega
        · omega
      · obtain ⟨c, hc, he⟩ := List.mem_map.1 hy
        injection he with he1 he2
        subst he1 he2
        rw [List.take_append_of_le_length (Nat.le_refl _), List.take_length] at hc
        obtain ⟨h1, rfl⟩ := chainK_mem hc
        omega
    unfold badLink
    rw [hl]
    simp; omega
  · rw [if_neg q]
    have hlk : ∀ x ∈ linksOf (loopL n f t), badLink (loopL n f t).length x = false := plain_links _ _ (fun i hi k hk => by
      rcases loopK_mem hk with ⟨h1, rfl⟩ | ⟨h1, rfl⟩ <;> omega)
    have hk := kidsIn_links hlk
    have hw := walk_ok _ hk (by omega : 0 < (loopL n f t).length)
    have hcnt : ∀ j : Nat, cntL (linksOf (loopL n f t)) j = ((((List.range n).map (fun i => (loopK n f t i).count ((j : Nat) : Int))).sum : Nat) : Int) := fun j => plain_cnt _ _ _
    have hlc : ∀ i j : Nat, (loopK n f t i).count ((j : Nat) : Int) = (if i + 1 = j ∧ i + 1 < n then 1 else 0) + (if i = f ∧ t = j then 1 else 0) := fun i j => by
      unfold loopK
      by_cases e : i = f
      · rw [if_pos e, List.count_append, chain_count, List.count_singleton]
        congr 1
        by_cases e2 : t = j
        · rw [if_pos (by rw [beq_iff_eq]; omega), if_pos ⟨e, e2⟩]
        · rw [if_neg (by rw [beq_iff_eq]; omega), if_neg (fun h => e2 h.2)]
      · rw [if_neg e, chain_count, if_neg (fun h => e h.1 : ¬ (i = f ∧ t = j))]; exact (Nat.add_zero _).symm
    rw [checkK_ok hlk]
    unfold checkC
    rw [find_range_hit (k := t) (by omega) ?_ (fun j hj => ?_)]
    · unfold cycB
      rw [decide_eq_true (show 0 < t by omega), Bool.true_and]
      have hne : cntL (linksOf (loopL n f t)) t ≠ 1 := by
        rw [hcnt]
        have hrows : ((List.range n).map (fun i => (loopK n f t i).count ((t : Nat) : Int))).sum ≥ 2 := by
          have hA : (loopK n f t (t - 1)).count ((t : Nat) : Int) ≥ 1 := by rw [hlc, if_pos (by omega)]; omega
          have hB : (loopK n f t f).count ((t : Nat) : Int) ≥ 1 := by rw [hlc, if_pos (⟨rfl, rfl⟩ : f = f ∧ t = t)]; omega
          have hmm : ((List.range n).map (fun i => (loopK n f t i).count ((t : Nat) : Int))).sum = (((List.range n).map (fun i => loopK n f t i)).map (fun row => row.count ((t : Nat) : Int))).sum := by rw [List.map_map]; rfl
          have hget : ∀ i, i < n → ((List.range n).map (fun i => loopK n f t i))[i]? = some (loopK n f t i) := fun i hi => by rw [List.getElem?_map, List.getElem?_range hi]; rfl
          rw [hmm]
          rcases Nat.lt_trichotomy (t - 1) f with e | e | e
          · have := sum_two (f := fun row : List Int => row.count ((t : Nat) : Int)) e (hget (t - 1) (by omega)) (hget f hf)
            omega
          · have h3 : (loopK n f t f).count ((t : Nat) : Int) = 2 := by rw [hlc, if_pos (by omega), if_pos (⟨rfl, rfl⟩ : f = f ∧ t = t)]
            have := sum_one (f := fun row : List Int => row.count ((t : Nat) : Int)) (hget f hf)
            omega
          · have := sum_two (f := fun row : List Int => row.count ((t : Nat) : Int)) e (hget f hf) (hget (t - 1) (by omega))
            omega
        omega
      rw [decide_eq_true hne]; rfl
    · unfold cycB
      by_cases e : j = 0
      · subst e; rfl
      · have h1 : cntL (linksOf (loopL n f t)) j = 1 := by
          rw [hcnt, sum_range_one n (fun i => (loopK n f t i).count ((j : Nat) : Int)) (j - 1) (by omega) (fun i hi hne => by
            show (loopK n f t i).count ((j : Nat) : Int) = 0
            rw [hlc, if_neg (by omega), if_neg (by omega)])]
          show (((loopK n f t (j - 1)).count ((j : Nat) : Int) : Nat) : Int) = 1
          rw [hlc, if_pos (by omega), if_neg (by omega)]; rfl
        have h2 := (hw.reach _).2 (loop_reach (f := f) (t := t) j (by omega))
        rw [h1]; simp; intro; omega
end Go.Proofs.Ytmmgdokaapphgaa.K
