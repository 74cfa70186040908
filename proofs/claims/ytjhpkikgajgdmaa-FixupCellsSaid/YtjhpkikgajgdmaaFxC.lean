/- Layer 5, plain: the pages of FixupCells. -/
import Derived.Test.YtjhpkikgajgdmaaFxG1
import Derived.Test.YtjhpkikgajgdmaaFxN
namespace Go.Proofs.Ytjhpkikgajgdmaa.K
open Go.RowKit Go.Proofs.YtjhpkikgajgdmaaW.PrintWords Go.Proofs.YtjhpkikgajgdmaaW.PrintLast Go.Proofs.YtjhpkikgajgdmaaW.PrintMore
set_option linter.unusedVariables false
set_option linter.unusedSimpArgs false
def upK (q : Nat) : List Int := (List.range q).map (fun j => ((j + 1 : Nat) : Int))
theorem upK_next (q : Nat) : upK (q + 1) = upK q ++ [((q + 1 : Nat) : Int)] := by unfold upK; rw [List.range_succ, List.map_append]; rfl
theorem upK_len (q : Nat) : (upK q).length = q := by unfold upK; rw [List.length_map, List.length_range]
/-- a table whose n kids are of one kind -/
def pgC (kd : Int) (n : Nat) : List Nd := nd0 2 (upK n) :: List.replicate n (nd0 kd [])
section
variable {kd : Int} {n : Nat}
theorem pgC_len : (pgC kd n).length = n + 1 := by unfold pgC; rw [List.length_cons, List.length_replicate]
theorem pgC_at {j : Nat} (h : j < n) : (pgC kd n)[j + 1]? = some (nd0 kd []) := by
  unfold pgC
  rw [List.getElem?_cons_succ, List.getElem?_replicate, if_pos h]
theorem pgC_mem {x : Nd} (h : x ∈ pgC kd n) : x = nd0 2 (upK n) ∨ x = nd0 kd [] := by
  unfold pgC at h
  rcases List.mem_cons.1 h with h | h
  · exact .inl h
  · exact .inr (List.eq_of_mem_replicate h)
theorem upK_mem {x : Int} (h : x ∈ upK n) : ∃ j : Nat, j < n ∧ x = ((j + 1 : Nat) : Int) := by
  unfold upK at h
  obtain ⟨j, hj, rfl⟩ := List.mem_map.1 h
  exact ⟨j, List.mem_range.1 hj, rfl⟩
theorem upK_nodup : (upK n).Nodup := by
  unfold upK List.Nodup
  rw [List.pairwise_map]
  exact List.Pairwise.imp (fun hne e => hne (by have := Int.ofNat.inj e; omega)) List.nodup_range
theorem pgC_kids0 : kidsOf (pgC kd n) 0 = upK n := kidsOf_nat (l := pgC kd n) (r := 0) (x := nd0 2 (upK n)) rfl
theorem pgC_row {r : Nat} {x : Nd} {k : Int} (hx : (pgC kd n)[r]? = some x) (hk : k ∈ x.f1) : r = 0 ∧ x = nd0 2 (upK n) := by
  cases r with
  | zero => cases hx; exact ⟨rfl, rfl⟩
  | succ j =>
    exfalso
    have hj : j < n := by have := (List.getElem?_eq_some_iff.1 hx).1; rw [pgC_len] at this; omega
    rw [pgC_at hj] at hx
    cases hx
    exact absurd hk List.not_mem_nil
theorem pgC_ok (h1 : 1 ≤ n) (h2 : n ≤ 100) (hr : rightN (nd0 kd []) = true) : PageOK (pgC kd n) := by
  have hlinks : ∀ x ∈ linksOf (pgC kd n), badLink (pgC kd n).length x = false := fun ⟨r, k⟩ hx => by
    obtain ⟨x, hx, hk⟩ := mem_links.1 hx
    obtain ⟨-, rfl⟩ := pgC_row hx hk
    obtain ⟨j, hj, rfl⟩ := upK_mem hk
    unfold badLink
    rw [pgC_len]
    simp; omega
  have hkin := kidsIn_links hlinks
  have hw := walk_ok (pgC kd n) hkin (by rw [pgC_len]; omega)
  have hkid : ∀ (p x : Int), 0 ≤ p ∧ p < ((pgC kd n).length : Int) → x ∈ kidsOf (pgC kd n) p → p = 0 ∧ x ∈ upK n := fun p x hp hx => by
    obtain ⟨m, rfl⟩ := Int.eq_ofNat_of_zero_le hp.1
    have hm : m < (pgC kd n).length := by omega
    rw [kidsOf_nat (List.getElem?_eq_getElem hm)] at hx
    obtain ⟨hm0, he⟩ := pgC_row (List.getElem?_eq_getElem hm) hx
    rw [he] at hx
    exact ⟨by rw [hm0]; rfl, hx⟩
  refine ⟨by rw [pgC_len]; omega, by rw [pgC_len]; omega, fun x hx => ?_, hlinks, fun i h0 hi => ?_, fun i hi => ?_, fun i hi => ?_⟩
  · rcases pgC_mem hx with rfl | rfl
    · rfl
    · exact hr
  · rw [links_count]
    have e : ckid (pgC kd n) (i : Int) = (upK n).count (i : Int) := by
      unfold ckid pgC
      rw [List.map_cons, List.sum_cons, List.map_replicate, List.sum_replicate_nat]
      show (upK n).count (i : Int) + n * 0 = _
      omega
    rw [e]
    have hm : (i : Int) ∈ upK n := by
      unfold upK
      rw [pgC_len] at hi
      exact List.mem_map.2 ⟨i - 1, List.mem_range.2 (by omega), by rw [show i - 1 + 1 = i by omega]⟩
    have ha := List.nodup_iff_count.1 (upK_nodup (n := n)) (i : Int)
    have hb := List.count_pos_iff.2 hm
    omega
  · rw [hw.reach]
    cases i with
    | zero => exact Reach.root _
    | succ j =>
      refine (Reach.root _).kid ?_
      rw [pgC_kids0]
      rw [pgC_len] at hi
      unfold upK
      exact List.mem_map.2 ⟨j, List.mem_range.2 (by omega), rfl⟩
  · have hord : ∀ (p : Int), p ∈ (walkP (pgC kd n)).ord → 0 ≤ p ∧ p < ((pgC kd n).length : Int) := fun p hp => by
      have h3 := (hw.mem p).1 hp
      refine (hw.reach p).1 h3 (fun y => 0 ≤ y ∧ y < ((pgC kd n).length : Int)) ⟨Int.le_refl _, by show (0 : Int) < _; rw [pgC_len]; omega⟩ (fun a k ha hk => ?_)
      obtain ⟨-, h5⟩ := hkid a k ha hk
      obtain ⟨j, hj, rfl⟩ := upK_mem h5
      rw [pgC_len]
      omega
    have h0 : ∀ (i : Nat), (walkP (pgC kd n)).ord[i]? = some 0 → (walkP (pgC kd n)).dep 0 = 1 := fun i hi => by
      rcases hw.back i 0 hi with ⟨-, h⟩ | ⟨j, p, -, hp, hx, -⟩
      · exact h
      · obtain ⟨-, h5⟩ := hkid p 0 (hord p (List.mem_of_getElem? hp)) hx
        obtain ⟨j, -, hj⟩ := upK_mem h5
        exact absurd hj (by omega)
    by_cases hz : 0 < (walkP (pgC kd n)).dep (i : Int)
    · obtain ⟨t, ht⟩ := List.getElem?_of_mem ((hw.mem _).2 hz)
      rcases hw.back t _ ht with ⟨-, h⟩ | ⟨j, p, -, hp, hx, hd⟩
      · omega
      · obtain ⟨rfl, -⟩ := hkid p _ (hord p (List.mem_of_getElem? hp)) hx
        rw [h0 j hp] at hd
        omega
    · omega
end

/-! what Fix makes of it -/
theorem step_leaf {xs : List Nd} {i : Nat} {n : Nd} (hn : xs[i]? = some n) (hr : ∀ x ∈ n.f1, 0 ≤ x ∧ x < (xs.length : Int)) (hm : ∀ x ∈ n.f1, mayB n.f0 (kindAt xs x) = true) : nodeStep xs i = xs := by
  have h := ref_true (xs := xs) (n := n) n.f1 [] [] none (fun x hx => ⟨hr x hx, hm x hx⟩)
  rw [List.append_nil, List.nil_append] at h
  rw [← ref_node hn hr, h]
  dsimp only
  have hi := (List.getElem?_eq_some_iff.1 hn)
  apply List.ext_getElem?
  intro j
  by_cases e : i = j
  · subst e
    rw [List.getElem?_set_self hi.1, hn]
  · rw [List.getElem?_set_ne e]
theorem step_wrap {xs : List Nd} {i : Nat} {n : Nd} (hn : xs[i]? = some n) (hr : ∀ x ∈ n.f1, 0 ≤ x ∧ x < (xs.length : Int)) (hm : ∀ x ∈ n.f1, mayB n.f0 (kindAt xs x) = false) (h0 : n.f1 ≠ []) :
    nodeStep xs i = (xs ++ [wrapN n.f0 n.f1]).set i { n with f1 := [(xs.length : Int)] } := by
  rw [← ref_node hn hr]
  cases hf : n.f1 with
  | nil => exact absurd hf h0
  | cons x g =>
    have hx : x ∈ n.f1 := by rw [hf]; exact List.mem_cons_self ..
    have e : refStep n ([], xs, none) x = ([(xs.length : Int)], xs ++ ([] ++ [wrapN n.f0 [x]]), some (xs.length + 0)) := by
      unfold refStep
      rw [if_neg (by rw [hm x hx]; decide)]
      rfl
    have h := ref_false (xs := xs) (n := n) g [x] [(xs.length : Int)] [] (fun y hy => by
      have : y ∈ n.f1 := by rw [hf]; exact List.mem_cons_of_mem _ hy
      exact ⟨hr y this, hm y this⟩)
    rw [List.foldl_cons, e]
    rw [List.length_nil] at h
    rw [h]
    rfl
theorem go_skip {xs : List Nd} : ∀ (d k i : Nat), (∀ j, i ≤ j → j < i + d → nodeStep xs j = xs) → i + d ≤ xs.length → fixGo (d + k) i xs = fixGo k (i + d) xs
  | 0, k, i, _, _ => by rw [Nat.zero_add, Nat.add_zero]
  | d + 1, k, i, h, hl => by
    rw [show d + 1 + k = (d + k) + 1 by omega, fixGo, if_pos (by omega), h i (Nat.le_refl _) (by omega), go_skip d k (i + 1) (fun j h1 h2 => h j (by omega) (by omega)) (by omega)]
    rw [show i + 1 + d = i + (d + 1) by omega]
theorem go_one {xs : List Nd} {k i : Nat} (h : i < xs.length) : fixGo (k + 1) i xs = fixGo k (i + 1) (nodeStep xs i) := by rw [fixGo, if_pos h]
theorem kind_nat {xs : List Nd} {j : Nat} {y : Nd} (h : xs[j]? = some y) : kindAt xs (j : Int) = y.f0 := by unfold kindAt; rw [rdNode h]
section
variable {kd : Int} {n : Nat}
theorem compC_len : (compP (pgC kd n)).length = n + 1 := by rw [compP_len, pgC_len]
theorem compC_0 : (compP (pgC kd n))[0]? = some (compN (nd0 2 (upK n))) := rfl
theorem compC_at {j : Nat} (h : j < n) : (compP (pgC kd n))[j + 1]? = some (compN (nd0 kd [])) := by
  unfold compP
  rw [List.getElem?_map, pgC_at h]; rfl
theorem kindC {x : Int} (hx : x ∈ upK n) : kindAt (compP (pgC kd n)) x = kd := by
  obtain ⟨j, hj, rfl⟩ := upK_mem hx
  exact kind_nat (compC_at hj)
/-- the first round -/
def onceC (kd : Int) (n : Nat) : List Nd := (compP (pgC kd n) ++ [wrapN 2 (upK n)]).set 0 { compN (nd0 2 (upK n)) with f1 := [((n + 1 : Nat) : Int)] }
theorem onceC_len : (onceC kd n).length = n + 2 := by unfold onceC; rw [List.length_set, List.length_append, compC_len]; rfl
theorem onceC_at {j : Nat} (h : j < n) : (onceC kd n)[j + 1]? = some (compN (nd0 kd [])) := by
  unfold onceC
  rw [List.getElem?_set_ne (by omega), List.getElem?_append_left (by rw [compC_len]; omega), compC_at h]
theorem onceC_last : (onceC kd n)[n + 1]? = some (wrapN 2 (upK n)) := by
  unfold onceC
  rw [List.getElem?_set_ne (by omega), List.getElem?_append_right (by rw [compC_len]; exact Nat.le_refl _), compC_len, Nat.sub_self]; rfl
theorem onceC_step (h1 : 1 ≤ n) (hm : mayB 2 kd = false) : nodeStep (compP (pgC kd n)) 0 = onceC kd n := by
  have h := step_wrap (xs := compP (pgC kd n)) (i := 0) (n := compN (nd0 2 (upK n))) compC_0 (fun x hx => by
    obtain ⟨j, hj, rfl⟩ := upK_mem (n := n) hx
    rw [compC_len]; omega) (fun x hx => by rw [kindC (n := n) hx]; exact hm) (fun e => by
      have := congrArg List.length (show upK n = [] from e)
      rw [upK_len] at this
      simp at this; omega)
  rw [h, compC_len]
  rfl
theorem onceC_leaf {j : Nat} (h0 : 1 ≤ j) (h : j < n + 1) : nodeStep (onceC kd n) j = onceC kd n := by
  obtain ⟨i, rfl⟩ : ∃ i, j = i + 1 := ⟨j - 1, by omega⟩
  exact step_leaf (onceC_at (by omega)) (fun x hx => absurd hx List.not_mem_nil) (fun x hx => absurd hx List.not_mem_nil)
theorem kindO {x : Int} (hx : x ∈ upK n) : kindAt (onceC kd n) x = kd := by
  obtain ⟨j, hj, rfl⟩ := upK_mem hx
  exact kind_nat (onceC_at hj)
end
theorem fix_cells {n : Nat} (h1 : 1 ≤ n) : fixP (pgC 10 n) = onceC 10 n := by
  unfold fixP
  rw [pgC_len, show 4 * (n + 1) = (n + 1 + (3 * n + 2)) + 1 by omega, go_one (by rw [compC_len]; omega), onceC_step h1 (by decide), go_skip (n + 1) (3 * n + 2) (0 + 1) (fun j h2 h3 => ?_) (by rw [onceC_len]; omega)]
  · rw [show 0 + 1 + (n + 1) = (onceC 10 n).length by rw [onceC_len]; omega, fixGo_end]
  · by_cases e : j < n + 1
    · exact onceC_leaf (by omega) e
    · obtain rfl : j = n + 1 := by omega
      refine step_leaf onceC_last (fun x hx => ?_) (fun x hx => ?_)
      · obtain ⟨i, hi, rfl⟩ := upK_mem (n := n) hx
        rw [onceC_len]; omega
      · rw [kindO (n := n) hx]
        show mayB (aroundP 2) 10 = true
        decide
/-- the second round, of texts -/
def twiceC (n : Nat) : List Nd := (onceC 1 n ++ [wrapN 9 (upK n)]).set (n + 1) { wrapN 2 (upK n) with f1 := [((n + 2 : Nat) : Int)] }
theorem twiceC_len {n : Nat} : (twiceC n).length = n + 3 := by unfold twiceC; rw [List.length_set, List.length_append, onceC_len]; rfl
theorem twiceC_at {n j : Nat} (h : j < n) : (twiceC n)[j + 1]? = some (compN (nd0 1 [])) := by
  unfold twiceC
  rw [List.getElem?_set_ne (by omega), List.getElem?_append_left (by rw [onceC_len]; omega), onceC_at h]
theorem twiceC_row {n : Nat} : (twiceC n)[n + 1]? = some { wrapN 2 (upK n) with f1 := [((n + 2 : Nat) : Int)] } := by
  unfold twiceC
  rw [List.getElem?_set_self (by rw [List.length_append, onceC_len]; show n + 1 < n + 2 + 1; omega)]
theorem twiceC_cell {n : Nat} : (twiceC n)[n + 2]? = some (wrapN 9 (upK n)) := by
  unfold twiceC
  rw [List.getElem?_set_ne (by omega), List.getElem?_append_right (by rw [onceC_len]; exact Nat.le_refl _), onceC_len, Nat.sub_self]; rfl
theorem fix_texts {n : Nat} (h1 : 1 ≤ n) : fixP (pgC 1 n) = twiceC n := by
  have hstep : nodeStep (onceC 1 n) (n + 1) = twiceC n := by
    have h := step_wrap (xs := onceC 1 n) (i := n + 1) (n := wrapN 2 (upK n)) onceC_last (fun x hx => by
      obtain ⟨j, hj, rfl⟩ := upK_mem (n := n) hx
      rw [onceC_len]; omega) (fun x hx => by
        rw [kindO (n := n) hx]
        show mayB (aroundP 2) 1 = false
        decide) (fun e => by
        have := congrArg List.length (show upK n = [] from e)
        rw [upK_len] at this
        simp at this; omega)
    rw [h, onceC_len]
    rfl
  unfold fixP
  rw [pgC_len, show 4 * (n + 1) = (n + (((1 + (3 * n + 1)) + 1))) + 1 by omega, go_one (by rw [compC_len]; omega), onceC_step h1 (by decide), go_skip n ((1 + (3 * n + 1)) + 1) (0 + 1) (fun j h2 h3 => onceC_leaf (by omega) (by omega)) (by rw [onceC_len]; omega),
    show 0 + 1 + n = n + 1 by omega, go_one (by rw [onceC_len]; omega), hstep, go_skip 1 (3 * n + 1) (n + 1 + 1) (fun j h2 h3 => ?_) (by rw [twiceC_len]; omega)]
  · rw [show n + 1 + 1 + 1 = (twiceC n).length by rw [twiceC_len], fixGo_end]
  · obtain rfl : j = n + 2 := by omega
    refine step_leaf twiceC_cell (fun x hx => ?_) (fun x hx => ?_)
    · obtain ⟨i, hi, rfl⟩ := upK_mem (n := n) hx
      rw [twiceC_len]; omega
    · obtain ⟨i, hi, rfl⟩ := upK_mem (n := n) hx
      rw [kind_nat (twiceC_at hi)]
      show mayB (aroundP 9) 1 = true
      decide
theorem pgC_fix {kd : Int} {n : Nat} (h1 : 1 ≤ n) (h2 : n ≤ 100) (hr : rightN (nd0 kd []) = true) : fixup_Fix.f (pgC kd n) = some (fixP (pgC kd n), 0) := by
  have hok := pgC_ok h1 h2 hr
  have hl : (linksOf (pgC kd n)).length ≤ 1000000000 := by
    rw [links_len]
    have := kidsum_valid hok
    have := hok.many
    omega
  unfold fixup_Fix.f fixR
  rw [if_pos hl, if_pos ((ok_iff _).2 hok)]
end Go.Proofs.Ytjhpkikgajgdmaa.K
