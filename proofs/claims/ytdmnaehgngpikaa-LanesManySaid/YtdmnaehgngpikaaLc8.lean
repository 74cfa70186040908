/- Layer 6: LanesMany, plain: a table of columns. -/
import Derived.Test.YtdmnaehgngpikaaLa9
import Derived.Test.YtdmnaehgngpikaaTrWd
namespace Go.Proofs.Ytdmnaehgngpikaa.K
open Go.RowKit
set_option linter.unusedVariables false
set_option linter.unusedSimpArgs false
theorem kidsOf_map (l : List Nd) (a : Int) : kidsOf l a = (l.map (fun n => n.f1)).getD a.toNat [] := by
  unfold kidsOf rd_T48
  rw [List.getD_eq_getElem?_getD, List.getD_eq_getElem?_getD, List.getElem?_map]
  cases l[a.toNat]? with
  | none => rfl
  | some x => rfl
theorem goP_kids {l l' : List Nd} (h : ∀ a, kidsOf l a = kidsOf l' a) : ∀ (k : Nat) (a d : Int) (s : WSt), goP l k a d s = goP l' k a d s
  | 0, _, _, _ => rfl
  | k + 1, a, d, s => by
    unfold goP
    rw [h a, show (fun t x => goP l k x (d + 1) t) = (fun t x => goP l' k x (d + 1) t) from funext fun t => funext fun x => goP_kids h k x (d + 1) t]
/-- a page's check hangs on its kids, and on each node -/
theorem pageOK_kids {l l' : List Nd} (h : l'.map (fun n => n.f1) = l.map (fun n => n.f1)) (hr : ∀ n ∈ l', rightN n = true) (ok : PageOK l) : PageOK l' := by
  have hlen : l'.length = l.length := by have := congrArg List.length h; simpa using this
  have hlk : linksOf l' = linksOf l := by unfold linksOf; rw [h]
  have hkd : ∀ a, kidsOf l' a = kidsOf l a := fun a => by rw [kidsOf_map, kidsOf_map, h]
  have hw : walkP l' = walkP l := by unfold walkP; rw [hlen]; exact goP_kids hkd _ _ _ _
  exact ⟨by rw [hlen]; exact ok.some, by rw [hlen]; exact ok.many, hr, by rw [hlk, hlen]; exact ok.links, by rw [hlk, hlen]; exact ok.times, by rw [hw, hlen]; exact ok.met, by rw [hw, hlen]; exact ok.deep⟩
def upK (q : Nat) : List Int := (List.range q).map (fun j => ((j + 1 : Nat) : Int))
theorem upK_next (q : Nat) : upK (q + 1) = upK q ++ [(q : Int) + 1] := by unfold upK; rw [List.range_succ, List.map_append]; rfl
theorem upK_len (q : Nat) : (upK q).length = q := by unfold upK; rw [List.length_map, List.length_range]
def styS (s : Int) : S45 := ⟨⟨0, 0⟩, ⟨0, 0⟩, ⟨0, 0, 0, 0⟩, ⟨⟨0, 0, 0⟩, ⟨0, 0, 0⟩, ⟨0, 0, 0⟩, ⟨0, 0, 0⟩⟩, s, 0, 0, false, false, ⟨0, 0⟩, false, false⟩
/-- a column -/
def ndS (s : Int) : Nd := ⟨5, [], styS s, [], 0, 0⟩
def nvS (s : Int) : List Value := [.int .i64 5, .slice none 0 0, .int .i64 0, .int .i64 0, .int .i64 0, .int .i64 0, .int .i64 0, .int .i64 0, .int .i64 0, .int .i64 0, .int .i64 0, .int .i64 0, .int .u32 0, .int .i64 0, .int .i64 0, .int .u32 0, .int .i64 0, .int .i64 0, .int .u32 0, .int .i64 0, .int .i64 0, .int .u32 0, .int .i64 s, .int .i64 0, .int .i64 0, .bool false, .bool false, .int .i64 0, .int .i64 0, .bool false, .bool false, .slice none 0 0, .int .i64 0, .int .i64 0]
theorem nvS_K (W : World) (s : Int) : k48.K W (ndS s) (nvS s) :=
  k48_mk W (ndS s) (A1 := none) (c1 := 0) (Nat.le_refl _) (c_nil W) (A31 := none) (c31 := 0) (Nat.le_refl _) (c_nil W)
/-- a table of q columns -/
def pageS (s : Int) (q : Nat) : List Nd := nd0 2 (upK q) :: List.replicate q (ndS s)
theorem pageS_len (s : Int) (q : Nat) : (pageS s q).length = q + 1 := by simp [pageS]
theorem pageS_f1 (s : Int) (q : Nat) : (pageS s q).map (fun n => n.f1) = (starL (q + 1)).map (fun n => n.f1) := by
  unfold pageS starL plainL
  rw [List.range_succ_eq_map, List.map_cons, List.map_cons, List.map_cons, List.map_replicate, List.map_map, List.map_map]
  congr 1
  apply List.ext_getElem?
  intro i
  rw [List.getElem?_replicate, List.getElem?_map]
  by_cases h : i < q
  · rw [if_pos h, List.getElem?_range h]; rfl
  · rw [if_neg h, List.getElem?_eq_none (by rw [List.length_range]; omega)]; rfl
theorem pageS_right {s : Int} (h1 : 1 ≤ s) (h2 : s ≤ 1000) (q : Nat) : ∀ n ∈ pageS s q, rightN n = true := by
  intro n hn
  rcases List.mem_cons.1 hn with rfl | hn
  · rfl
  · rw [(List.mem_replicate.1 hn).2]
    have e : rightN (ndS s) = (decide (-1000 ≤ s) && decide (s ≤ 1000)) := by
      unfold rightN headB validB styN ndS styS bareB
      simp [sizeB, lenB, lineB, lengthB]
    rw [e, decide_eq_true (by omega), decide_eq_true h2]; rfl
theorem pageS_ok {s : Int} (h1 : 1 ≤ s) (h2 : s ≤ 1000) {q : Nat} (hq : q ≤ 12) : PageOK (pageS s q) := pageOK_kids (pageS_f1 s q) (pageS_right h1 h2 q) (star_ok (by omega) (by omega))
theorem pageS_get {s : Int} {q : Nat} {k : Int} (hk : k ∈ upK q) : rd_T48 (pageS s q) k = ndS s := by
  obtain ⟨j, hj, rfl⟩ := List.mem_map.1 hk
  have hj' := List.mem_range.1 hj
  unfold rd_T48 pageS
  rw [Int.toNat_natCast, List.getD_eq_getElem?_getD, List.getElem?_cons_succ, List.getElem?_replicate, if_pos hj']; rfl
theorem pageS_cols {s : Int} (h1 : 1 ≤ s) (q : Nat) : colsP (pageS s q) 0 = (upK q).map (fun k => (⟨k, -1⟩, s)) := by
  have hk : kidsK (pageS s q) ((0 : Nat) : Int) [5, 4] = upK q := by
    unfold kidsK
    show (upK q).filter _ = upK q
    rw [List.filter_eq_self]
    intro k hk
    unfold kindOf
    rw [pageS_get hk]; rfl
  unfold colsP
  rw [hk]
  have : ∀ xs : List Int, (∀ x ∈ xs, x ∈ upK q) → xs.flatMap (colsOf (pageS s q)) = xs.map (fun k => ((⟨k, -1⟩, s) : Ln1)) := by
    intro xs
    induction xs with
    | nil => intro _; rfl
    | cons x xs ih =>
      intro hx
      rw [List.flatMap_cons, List.map_cons, ih (fun y hy => hx y (List.mem_cons_of_mem _ hy))]
      have hx0 := pageS_get (s := s) (hx x List.mem_cons_self)
      unfold colsOf kindOf spanK
      rw [hx0, if_neg (show ¬ ((ndS s).f0 = 4) from (by decide : ¬ ((5 : Int) = 4))), show max (ndS s).f2.f4 1 = s from by show max s 1 = s; omega]
      rfl
  exact this _ (fun _ h => h)
theorem replP_const (s : Nat) : ∀ xs : List Ln1, (∀ x ∈ xs, x.2 = (s : Int)) → (replP xs).length = xs.length * s
  | [], _ => by simp [replP]
  | x :: xs, h => by
    have ih := replP_const s xs (fun y hy => h y (List.mem_cons_of_mem _ hy))
    have hx := h x List.mem_cons_self
    unfold replP at ih ⊢
    rw [List.flatMap_cons, List.length_append, List.length_replicate, ih, hx, Int.toNat_natCast, List.length_cons, Nat.add_mul, Nat.one_mul, Nat.add_comm]
theorem many_cols {s q : Nat} (h1 : 1 ≤ s) (h2 : s ≤ 1000) (hq : q ≤ 12) : ∃ r1 r2, lanes_Cols.f (pageS (s : Int) q) 0 7 = some (r1, r2) ∧ (10000 < s * q → r1 = [] ∧ r2 = 43) ∧ (s * q ≤ 10000 → r1.length = max (s * q) 7 ∧ r2 = 0) := by
  have ok := pageS_ok (s := (s : Int)) (by omega) (by omega) hq
  have hlk : (linksOf (pageS (s : Int) q)).length ≤ 1000000000 := by
    rw [show linksOf (pageS (s : Int) q) = linksOf (starL (q + 1)) by unfold linksOf; rw [pageS_f1]]
    have key : ∀ (rows : List (List Int)) (i : Nat), (∀ r ∈ rows, r.length ≤ 12) → (cellsFrom i rows).length ≤ rows.length * 12 := by
      intro rows
      induction rows with
      | nil => intro i _; exact Nat.zero_le _
      | cons r rows ih =>
        intro i h
        rw [cellsFrom, List.length_append, List.length_map, List.length_cons]
        have h1 := ih (i + 1) (fun x hx => h x (List.mem_cons_of_mem _ hx))
        have h2 := h r List.mem_cons_self
        omega
    have := key ((starL (q + 1)).map (fun n => n.f1)) 0 (by
      intro r hr
      obtain ⟨n, hn, rfl⟩ := List.mem_map.1 hr
      obtain ⟨i, -, rfl⟩ := List.mem_map.1 hn
      show (starK (q + 1) i).length ≤ 12
      unfold starK
      split
      · rw [List.length_map, List.length_range]; omega
      · exact Nat.zero_le _)
    rw [List.length_map, show (starL (q + 1)).length = q + 1 from plain_len _ _] at this
    show (cellsFrom 0 _).length ≤ _
    omega
  have hck : checkL (pageS (s : Int) q) 0 = 0 := by
    unfold checkL
    rw [if_pos ((ok_iff _).2 ok), if_neg (by decide), if_neg (by rw [pageS_len]; omega), if_pos (show kindOf (pageS (s : Int) q) 0 = 2 from rfl)]
  have hlen : (replP (colsP (pageS (s : Int) q) 0)).length = s * q := by
    rw [pageS_cols (by omega), replP_const s _ (by intro x hx; obtain ⟨k, -, rfl⟩ := List.mem_map.1 hx; rfl), List.length_map, upK_len, Nat.mul_comm]
  unfold lanes_Cols.f
  rw [if_pos hlk, if_pos hck, if_neg (by decide)]
  show ∃ r1 r2, some (colsR (pageS (s : Int) q) 0 7) = some (r1, r2) ∧ _
  by_cases h : 10000 < s * q
  · rw [colsR_many (by omega)]
    exact ⟨_, _, rfl, fun _ => ⟨rfl, rfl⟩, fun h' => absurd h (by omega)⟩
  · rw [colsR_ok (by omega)]
    refine ⟨_, _, rfl, fun h' => absurd h' h, fun _ => ⟨?_, rfl⟩⟩
    rw [List.length_append, List.length_replicate, hlen]
    omega
end Go.Proofs.Ytdmnaehgngpikaa.K
