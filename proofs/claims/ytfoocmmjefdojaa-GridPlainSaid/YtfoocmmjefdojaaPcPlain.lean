/- Layer 7, plain: GridPlain. -/
import Derived.Test.YtfoocmmjefdojaaHist
import Derived.Test.YtfoocmmjefdojaaK16
import Derived.Test.YtfoocmmjefdojaaOpens
import Derived.KernelRfl
namespace Go.Proofs.Ytfoocmmjefdojaa.Pure
set_option linter.unusedVariables false
set_option linter.unusedSimpArgs false
open Go.RowKit Go.Proofs.Ytfoocmmjefdojaa.K Go.Proofs.YtfoocmmjefdojaaW.PrintWords Go.Proofs.YtfoocmmjefdojaaW.PrintLast Go.Proofs.YtfoocmmjefdojaaW.PrintMore

theorem shown_ev : Ev (fun k => purflinglaw07_shown.f k) true := by
  have h : purflinglaw07_shown.f 10 = some true := by decide +kernel
  exact Ev.of purflinglaw07_shown.mono h
def frP (q i : Nat) : List Sp := (List.range q).map (fun (j : Nat) => (⟨100 * i + j, 1, 1⟩ : Sp))
def rowsQ (n m r q : Nat) : List (List Sp) := (List.range n).map (fun i => if i < r then frP m i else if i = r then frP q i else [])
def endsQ (n r : Nat) : List Int := (List.range n).map (fun i => if i < r then (n : Int) else 0)
theorem rowsQ_len (n m r q : Nat) : (rowsQ n m r q).length = n := by simp [rowsQ]
theorem endsQ_len (n r : Nat) : (endsQ n r).length = n := by simp [endsQ]
theorem rowsQ_rd (n m r q : Nat) (h : r < n) : rd_L2 (rowsQ n m r q) (r : Int) = frP q r := by
  unfold rd_L2 rowsQ
  rw [Int.toNat_natCast, List.getD_eq_getElem?_getD, List.getElem?_map, List.getElem?_range h]
  simp
theorem rowsQ_next (n m r q : Nat) (h : r < n) : (rowsQ n m r q).set r (frP q r ++ [(⟨100 * r + q, 1, 1⟩ : Sp)]) = rowsQ n m r (q + 1) := by
  apply List.ext_getElem
  · rw [List.length_set, rowsQ_len, rowsQ_len]
  · intro i h1 h2
    have hi : i < n := by rw [rowsQ_len] at h2; exact h2
    rw [List.getElem_set]
    by_cases e : r = i
    · subst e; simp [rowsQ, frP, List.range_succ]
    · have e' : ¬ i = r := fun h => e h.symm
      simp [rowsQ, e, e']
theorem rowsQ_row (n m r : Nat) : rowsQ n m r m = rowsQ n m (r + 1) 0 := by
  unfold rowsQ
  apply List.map_congr_left
  intro i _
  by_cases h1 : i < r
  · rw [if_pos h1, if_pos (by omega)]
  · rw [if_neg h1]
    by_cases h2 : i = r
    · rw [if_pos h2, if_pos (by omega)]
    · rw [if_neg h2, if_neg (by omega)]; split <;> simp [frP]
theorem rowsQ_zero (n m : Nat) : List.replicate n ([] : List Sp) = rowsQ n m 0 0 := by
  apply List.ext_getElem
  · rw [rowsQ_len, List.length_replicate]
  · intro i h1 h2
    simp [rowsQ, frP]
theorem endsQ_zero (n : Nat) : List.replicate n (0 : Int) = endsQ n 0 := by
  apply List.ext_getElem
  · rw [endsQ_len, List.length_replicate]
  · intro i h1 h2
    simp [endsQ]
theorem endsQ_next (n r : Nat) (h : r < n) : (endsQ n r).set r (n : Int) = endsQ n (r + 1) := by
  apply List.ext_getElem
  · rw [List.length_set, endsQ_len, endsQ_len]
  · intro i h1 h2
    have hi : i < n := by rw [endsQ_len] at h2; exact h2
    rw [List.getElem_set]
    by_cases e : r = i
    · subst e; simp [endsQ]
    · simp only [endsQ, List.getElem_map, List.getElem_range]
      rw [if_neg e]
      by_cases h3 : i < r
      · rw [if_pos h3, if_pos (by omega)]
      · rw [if_neg h3, if_neg (by omega)]
def rowsF (n m : Nat) : List (List Sp) := rowsQ n m n 0
def endsF (n : Nat) : List Int := endsQ n n
theorem rowsF_mem {n m : Nat} {row : List Sp} (h : row ∈ rowsF n m) : ∃ i, i < n ∧ row = frP m i := by
  obtain ⟨i, hi, rfl⟩ := List.mem_map.1 h
  exact ⟨i, List.mem_range.1 hi, by rw [if_pos (List.mem_range.1 hi)]⟩
theorem rowsF_at {n m i : Nat} (h : i < n) : (rowsF n m)[i]? = some (frP m i) := by
  unfold rowsF rowsQ
  rw [List.getElem?_map, List.getElem?_range h, Option.map_some, if_pos h]
theorem cells_at {α : Type} (m : Nat) (hm : 0 < m) : ∀ (rows : List (List α)) (r k : Nat) (row : List α) (x : α), (∀ y ∈ rows, y.length = m) → rows[k / m]? = some row → row[k % m]? = some x → (cellsFrom r rows)[k]? = some (r + k / m, x)
  | [], r, k, row, x, hl, h1, h2 => by simp at h1
  | y :: ys, r, k, row, x, hl, h1, h2 => by
    unfold cellsFrom
    have hy := hl y (List.mem_cons_self ..)
    by_cases hk : k < m
    · rw [Nat.div_eq_of_lt hk] at h1 ⊢
      rw [Nat.mod_eq_of_lt hk] at h2
      rw [List.getElem?_cons_zero] at h1
      cases h1
      rw [List.getElem?_append_left (by rw [List.length_map, hy]; exact hk), List.getElem?_map, h2]; rfl
    · have hd : k / m = (k - m) / m + 1 := by
        have : k = (k - m) + m := by omega
        conv => lhs; rw [this]
        exact Nat.add_div_right _ hm
      have hmo : k % m = (k - m) % m := by
        have : k = (k - m) + m := by omega
        conv => lhs; rw [this]
        exact Nat.add_mod_right _ _
      rw [hd] at h1 ⊢
      rw [hmo] at h2
      rw [List.getElem?_cons_succ] at h1
      rw [List.getElem?_append_right (by rw [List.length_map, hy]; omega), List.length_map, hy, cells_at m hm ys (r + 1) (k - m) row x (fun z hz => hl z (List.mem_cons_of_mem _ hz)) h1 h2]
      congr 2; omega
theorem cells_length {α : Type} (m : Nat) : ∀ (rows : List (List α)) (r : Nat), (∀ y ∈ rows, y.length = m) → (cellsFrom r rows).length = rows.length * m
  | [], r, h => by simp [cellsFrom]
  | y :: ys, r, h => by
    unfold cellsFrom
    rw [List.length_append, List.length_map, h y (List.mem_cons_self ..), cells_length m ys (r + 1) (fun z hz => h z (List.mem_cons_of_mem _ hz)), List.length_cons, Nat.add_mul]; omega
theorem frP_len (m i : Nat) : (frP m i).length = m := by simp [frP]
theorem rowsF_cell {n m k : Nat} (h : k < n * m) : (cellsFrom 0 (rowsF n m))[k]? = some (k / m, (⟨100 * (k / m : Nat) + (k % m : Nat), 1, 1⟩ : Sp)) := by
  have hm : 0 < m := by rcases Nat.eq_zero_or_pos m with e | e; (subst e; simp at h); exact e
  have hd : k / m < n := (Nat.div_lt_iff_lt_mul hm).2 h
  have := cells_at m hm (rowsF n m) 0 k (frP m (k / m)) (⟨100 * (k / m : Nat) + (k % m : Nat), 1, 1⟩ : Sp) (fun y hy => by obtain ⟨i, _, rfl⟩ := rowsF_mem hy; exact frP_len m i) (rowsF_at hd) (by
    unfold frP
    rw [List.getElem?_map, List.getElem?_range (Nat.mod_lt _ hm)]; rfl)
  rwa [Nat.zero_add] at this
theorem rowsF_cells_len (n m : Nat) : (cellsFrom 0 (rowsF n m)).length = n * m := by
  rw [cells_length m _ 0 (fun y hy => by obtain ⟨i, _, rfl⟩ := rowsF_mem hy; exact frP_len m i)]
  unfold rowsF; rw [rowsQ_len]
theorem plain_right (n m : Nat) (hn : n ≤ 50) : gridRightB (rowsF n m) (endsF n) = true := by
  unfold gridRightB
  simp only [Bool.and_eq_true, List.all_eq_true, decide_eq_true_eq]
  have hl : (rowsF n m).length = n := rowsQ_len _ _ _ _
  refine ⟨⟨⟨by rw [hl]; exact (endsQ_len n n).symm, by omega⟩, ?_⟩, ?_⟩
  · rintro ⟨e, k⟩ hx
    rw [List.mem_zipIdx_iff_getElem?] at hx
    dsimp only at hx
    unfold endsF endsQ at hx
    rw [List.getElem?_map] at hx
    obtain ⟨i, hi, he⟩ := Option.map_eq_some_iff.1 hx
    obtain ⟨h1, h2⟩ := List.getElem?_eq_some_iff.1 hi
    rw [List.length_range] at h1
    rw [List.getElem_range] at h2
    subst h2
    rw [if_pos h1] at he
    unfold endOK
    rw [hl]
    exact decide_eq_true (by dsimp only; omega)
  · intro x hx
    obtain ⟨k, hk⟩ := List.getElem?_of_mem hx
    have hlt := (List.getElem?_eq_some_iff.1 hk).1
    rw [rowsF_cells_len] at hlt
    rw [rowsF_cell hlt] at hk
    cases hk
    unfold spOK
    rfl
def plOf (x : Nat × Sp) : Pl := ⟨x.2.f0, x.1, x.2.f0 - 100 * x.1, 1, 1⟩
theorem plain_run (n m : Nat) (hn : n ≤ 50) (hm : m ≤ 50) : ∀ (d k : Nat) (s : LSt), k + d = n * m → HistI (endsF n) ((cellsFrom 0 (rowsF n m)).take k) s → BdS s → s.ps = ((cellsFrom 0 (rowsF n m)).take k).map plOf → s.most ≤ m → (k < n * m → s.at_ ≤ ((k / m : Nat) : Int)) →
    (runP (endsF n) ((cellsFrom 0 (rowsF n m)).drop k) s).most ≤ m ∧ (runP (endsF n) ((cellsFrom 0 (rowsF n m)).drop k) s).ps = (cellsFrom 0 (rowsF n m)).map plOf
  | 0, k, s, h, hh, hb, hps, hmo, _ => by
    rw [List.drop_of_length_le (by rw [rowsF_cells_len]; omega)]
    unfold runP
    rw [List.take_of_length_le (by rw [rowsF_cells_len]; omega)] at hps
    exact ⟨hmo, hps⟩
  | d + 1, k, s, h, hh, hb, hps, hmo, hat => by
    have hk : k < n * m := by omega
    have hm0 : 0 < m := by rcases Nat.eq_zero_or_pos m with e | e; (subst e; simp at hk); exact e
    have hd : k / m < n := (Nat.div_lt_iff_lt_mul hm0).2 hk
    have hmod : k % m < m := Nat.mod_lt _ hm0
    have hcell := rowsF_cell hk
    obtain ⟨x, hxe⟩ : ∃ x : Nat × Sp, x = (k / m, (⟨100 * (k / m : Nat) + (k % m : Nat), 1, 1⟩ : Sp)) := ⟨_, rfl⟩
    rw [← hxe] at hcell
    have hdrop : (cellsFrom 0 (rowsF n m)).drop k = x :: (cellsFrom 0 (rowsF n m)).drop (k + 1) := by
      obtain ⟨h1, h2⟩ := List.getElem?_eq_some_iff.1 hcell
      rw [List.drop_eq_getElem_cons h1, h2]
    have htake : (cellsFrom 0 (rowsF n m)).take (k + 1) = (cellsFrom 0 (rowsF n m)).take k ++ [x] := by rw [List.take_add_one, hcell]; rfl
    have x1 : x.1 = k / m := by rw [hxe]
    have x0 : x.2.f0 = 100 * ((k / m : Nat) : Int) + ((k % m : Nat) : Int) := by rw [hxe]
    have xf1 : x.2.f1 = 1 := by rw [hxe]
    have xf2 : x.2.f2 = 1 := by rw [hxe]
    have hend : (endsF n)[x.1]? = some (n : Int) := by
      unfold endsF endsQ
      rw [x1, List.getElem?_map, List.getElem?_range hd, Option.map_some, if_pos hd]
    have hst := hh.step hb (by omega) hend (by rw [x1]; omega) (by rw [xf1]; omega) (by rw [xf2]; omega) (by rw [x1]; exact hat hk)
    have hbd := step_bd (ends := endsF n) hb (x := x) (by omega) (by rw [xf1]; omega)
    obtain ⟨p, hp⟩ : ∃ p, (stepP (endsF n) s x).ps = s.ps ++ [p] := ⟨_, rfl⟩
    have hplen : s.ps.length = k := by rw [hh.len, List.length_take, rowsF_cells_len]; omega
    obtain ⟨y, hy, hf, hpm⟩ := hst.each k p (by rw [hp, List.getElem?_append_right (by omega), hplen, Nat.sub_self]; rfl)
    have hyx : y = x := by
      rw [← htake, List.getElem?_take, if_pos (by omega), hcell] at hy
      exact (Option.some.inj hy).symm
    subst hyx
    have htk : (stepP (endsF n) s y).ps.take k = s.ps := by rw [hp, List.take_append_of_le_length (by omega), ← hplen, List.take_length]
    rw [htk] at hf
    have hrow := hf.row
    have hf3 := hf.high1 xf2
    have hf4 : p.f4 = 1 := by have := hf.wide; rw [xf1] at this; omega
    -- nothing of the row is taken behind the last place
    have hcol : p.f2 = fromOf s.ps p.f1 := by
      have h0 := hf.fr
      by_cases e : p.f2 = fromOf s.ps p.f1
      · exact e
      · have ht := hf.before (fromOf s.ps p.f1) (Int.le_refl _) (by omega)
        obtain ⟨q, hq, hin⟩ := (taken_iff _ _).1 ht
        rw [inP_iff] at hin
        have hr := hf.rows q hq
        have hq1 : q.f3 = 1 := by
          rw [hps] at hq
          obtain ⟨z, _, rfl⟩ := List.mem_map.1 hq; rfl
        dsimp only at hin
        have := hr.2 (by omega)
        omega
    have hfrom : fromOf s.ps p.f1 = ((k % m : Nat) : Int) := by
      rw [hrow, x1]
      unfold fromOf
      rw [hps]
      by_cases hk0 : k = 0
      · subst hk0; simp
      · have hprev := rowsF_cell (n := n) (m := m) (k := k - 1) (by omega)
        have hlast : (((cellsFrom 0 (rowsF n m)).take k).map plOf).getLast? = some (plOf ((k - 1) / m, (⟨100 * ((k - 1) / m : Nat) + ((k - 1) % m : Nat), 1, 1⟩ : Sp))) := by
          rw [List.getLast?_eq_getElem?, List.length_map, List.length_take, rowsF_cells_len, Nat.min_eq_left (by omega), List.getElem?_map, List.getElem?_take, if_pos (by omega), hprev]; rfl
        rw [hlast]
        show (if (((k - 1) / m : Nat) : Int) = ((k / m : Nat) : Int) then _ else _) = _
        have e1 := Nat.div_add_mod k m
        have e2 := Nat.div_add_mod (k - 1) m
        have e3 := Nat.mod_lt (k - 1) hm0
        by_cases e : (k - 1) / m = k / m
        · rw [if_pos (by omega)]
          show (100 * (((k - 1) / m : Nat) : Int) + (((k - 1) % m : Nat) : Int) - 100 * (((k - 1) / m : Nat) : Int)) + 1 = _
          rw [e] at e2
          omega
        · rw [if_neg (by omega)]
          have h1 : (k - 1) / m ≤ k / m := Nat.div_le_div_right (by omega)
          have h2 : (k - 1) / m + 1 ≤ k / m := by omega
          have h3 : m * ((k - 1) / m + 1) ≤ m * (k / m) := Nat.mul_le_mul_left m h2
          rw [Nat.mul_add, Nat.mul_one] at h3
          omega
    have hpe : p = plOf y := by
      have hn0 := hf.node
      obtain ⟨p0, p1, p2, p3, p4⟩ := p
      dsimp only at hrow hf3 hf4 hcol hfrom hn0
      unfold plOf
      rw [hcol, hfrom, hf3, hf4, hrow, hn0, x0, x1]
      congr 1; omega
    have hmo' : (stepP (endsF n) s y).most ≤ m := by
      have hb2 := hbd.inb
      have : (stepP (endsF n) s y).most = max s.most (p.f2 + p.f4) := by
        have hp2 : (placeP s.ps ((endsF n).getD y.1 0) y.1 (if (y.1 : Int) = s.at_ then s.col else 0) y.2) = p := by
          have : s.ps ++ [placeP s.ps ((endsF n).getD y.1 0) y.1 (if (y.1 : Int) = s.at_ then s.col else 0) y.2] = s.ps ++ [p] := hp
          exact (List.cons.inj (List.append_cancel_left this)).1
        show max s.most ((placeP s.ps ((endsF n).getD y.1 0) y.1 (if (y.1 : Int) = s.at_ then s.col else 0) y.2).f2 + (placeP s.ps ((endsF n).getD y.1 0) y.1 (if (y.1 : Int) = s.at_ then s.col else 0) y.2).f4) = _
        rw [hp2]
      rw [this, hcol, hfrom, hf4]; omega
    rw [hdrop]
    unfold runP
    rw [if_neg (by omega)]
    refine plain_run n m hn hm d (k + 1) _ (by omega) (by rw [htake]; exact hst) hbd (by rw [hp, htake, List.map_append, hps, hpe]; rfl) hmo' (fun h2 => ?_)
    show ((y.1 : Nat) : Int) ≤ _
    rw [x1]
    have : k / m ≤ (k + 1) / m := Nat.div_le_div_right (by omega)
    omega
theorem emptyR_nil (r : Nat) : ∀ (row : List Int) (c : Nat), (∀ v ∈ row, 0 ≤ v) → emptyR r c row = []
  | [], c, h => rfl
  | v :: vs, c, h => by
    unfold emptyR
    rw [if_neg (by have := h v (List.mem_cons_self ..); omega)]
    exact emptyR_nil r vs (c + 1) (fun w hw => h w (List.mem_cons_of_mem _ hw))
theorem emptyM_nil : ∀ (m : List (List Int)) (r : Nat), (∀ row ∈ m, ∀ v ∈ row, 0 ≤ v) → emptyM r m = []
  | [], r, h => rfl
  | row :: rows, r, h => by
    unfold emptyM
    rw [emptyR_nil r row 0 (h row (List.mem_cons_self ..)), emptyM_nil rows (r + 1) (fun x hx => h x (List.mem_cons_of_mem _ hx))]; rfl
/-- what is laid, and that none is empty -/
theorem plain_lay (n m : Nat) (hn : n ≤ 50) (hm : m ≤ 50) : ∃ c : Int, grid_Lay.f (rowsF n m) (endsF n) = some ((cellsFrom 0 (rowsF n m)).map plOf, c, 0) ∧ (n > 0 → c = m) ∧ grid_Empty.f ((cellsFrom 0 (rowsF n m)).map plOf) n c = some ([], 0) := by
  have hR := plain_right n m hn
  have hrun := plain_run n m hn hm (n * m) 0 ⟨[], 0, 0, 0⟩ (by omega) (by rw [List.take_zero]; exact HistI.init _) BdS.init (by rw [List.take_zero]; rfl) (by dsimp only; omega) (fun _ => Int.natCast_nonneg _)
  rw [List.drop_zero] at hrun
  obtain ⟨s, hs⟩ : ∃ s, runP (endsF n) (cellsFrom 0 (rowsF n m)) ⟨[], 0, 0, 0⟩ = s := ⟨_, rfl⟩
  rw [hs] at hrun
  obtain ⟨hmo, hps⟩ := hrun
  obtain ⟨hh, hb⟩ := lay_hist hR (by rw [hs]; omega)
  rw [hs] at hh hb
  have hlen := rowsF_cells_len n m
  have hnm : n * m ≤ 50 * 50 := Nat.mul_le_mul hn hm
  have hrl : (rowsF n m).length = n := rowsQ_len _ _ _ _
  have hpl : ∀ k, k < n * m → s.ps[k]? = some (⟨100 * (k / m : Nat) + (k % m : Nat), (k / m : Nat), (k % m : Nat), 1, 1⟩ : Pl) := fun k hk => by
    rw [hps, List.getElem?_map, rowsF_cell hk]
    show some (plOf _) = _
    unfold plOf
    congr 2
    dsimp only; omega
  have hcm : n > 0 → s.most = m := fun hn0 => by
    rcases Nat.eq_zero_or_pos m with e | e
    · subst e
      rcases hh.top with h1 | ⟨p, hp, h1⟩
      · exact h1
      · rw [hps] at hp
        have : (cellsFrom 0 (rowsF n 0)) = [] := List.length_eq_zero_iff.1 (by rw [hlen, Nat.mul_zero])
        rw [this] at hp; cases hp
    · have hk : m - 1 < n * m := by have := Nat.le_mul_of_pos_left m hn0; omega
      obtain ⟨x, _, _, h1⟩ := hh.each (m - 1) _ (hpl (m - 1) hk)
      dsimp only at h1
      rw [Nat.mod_eq_of_lt (by omega)] at h1
      omega
  have hm0 : 0 ≤ s.most := by have := hb.c0; have := hb.cm; omega
  obtain ⟨C, mt, hC, hsl, hd, ho⟩ := lay_slots hR hs (by omega) (by
    rw [hrl]
    have : (n : Int) * s.most ≤ 50 * 50 := Int.mul_le_mul (by omega) (by omega) hm0 (by omega)
    omega)
  refine ⟨s.most, ?_, hcm, ?_⟩
  · unfold grid_Lay.f
    rw [if_pos hR, if_pos (by omega), hs, if_neg (by omega), hps]
  · unfold grid_Empty.f
    rw [hrl] at hsl hd ho
    rw [← hps, hsl]
    show some (emptyM 0 mt, (0 : Int)) = _
    rw [emptyM_nil mt 0]
    intro row hrow v hv
    obtain ⟨r, hr⟩ := List.getElem?_of_mem hrow
    obtain ⟨c, hc⟩ := List.getElem?_of_mem hv
    have hr1 := (List.getElem?_eq_some_iff.1 hr).1
    have hc1 := (List.getElem?_eq_some_iff.1 hc).1
    rw [hd.1] at hr1
    rw [hd.2 row hrow] at hc1
    have hv : sl mt r c = v := by
      unfold sl rd rd_L4
      rw [Int.toNat_natCast, Int.toNat_natCast, List.getD_eq_getElem?_getD, List.getD_eq_getElem?_getD, hr, Option.getD_some, hc]; rfl
    have hCm : C = m := by have := hcm (by omega); omega
    rcases ho r c ⟨by omega, by omega⟩ ⟨by omega, by omega⟩ with h1 | ⟨j, p, _, _, h1⟩
    · exfalso
      have hm1 : 0 < m := by omega
      have hk : r * m + c < n * m := by
        have : (r + 1) * m ≤ n * m := Nat.mul_le_mul_right m hr1
        rw [Nat.add_mul] at this; omega
      have hp := hpl (r * m + c) hk
      have e1 : (r * m + c) / m = r := by rw [Nat.mul_comm, Nat.mul_add_div hm1, Nat.div_eq_of_lt (by omega), Nat.add_zero]
      have e2 : (r * m + c) % m = c := by rw [Nat.mul_comm, Nat.mul_add_mod, Nat.mod_eq_of_lt (by omega)]
      rw [e1, e2] at hp
      have := (taken_iff s.ps ((r : Int), (c : Int))).2 ⟨_, List.mem_of_getElem? hp, (inP_iff _ _).2 (by dsimp only; omega)⟩
      rw [h1.2] at this; cases this
    · rw [← hv, h1]; omega
theorem tdiv_nat (a b : Nat) : Int.tdiv (a : Int) (b : Int) = ((a / b : Nat) : Int) := rfl
theorem tmod_nat (a b : Nat) : Int.tmod (a : Int) (b : Int) = ((a % b : Nat) : Int) := rfl
theorem rdPl' {xs : List Pl} {j : Nat} {x : Pl} (h : xs[j]? = some x) : rd_T40 xs (j : Int) = x := getD_at h
theorem gp_l2 (n m : Nat) (hn : n ≤ 50) (hm : m ≤ 50) (c : Int) (he : grid_Empty.f ((cellsFrom 0 (rowsF n m)).map plOf) n c = some ([], 0)) : ∀ (d i : Nat), i + d = n * m → Ev (fun k => purflinglaw07_GridPlain.l2 k n m true ((cellsFrom 0 (rowsF n m)).map plOf) c i) true
  | 0, i, h => by
    have hl : ((cellsFrom 0 (rowsF n m)).map plOf).length = n * m := by rw [List.length_map, rowsF_cells_len]
    refine Ev.step (fun k => by rw [purflinglaw07_GridPlain.l2]) (ev_neg (by omega) ?_)
    exact ev_bind (ev_const he) (ev_pos rfl (ev_pos rfl (ev_now rfl)))
  | d + 1, i, h => by
    have hl : ((cellsFrom 0 (rowsF n m)).map plOf).length = n * m := by rw [List.length_map, rowsF_cells_len]
    have hi : i < n * m := by omega
    have hm0 : 0 < m := by rcases Nat.eq_zero_or_pos m with e | e; (subst e; simp at hi); exact e
    have hd : i / m < n := (Nat.div_lt_iff_lt_mul hm0).2 hi
    have hmod : i % m < m := Nat.mod_lt _ hm0
    refine Ev.step (fun k => by rw [purflinglaw07_GridPlain.l2]) (ev_pos (by omega) (ev_pos (by omega) (ev_neg (by omega) ?_)))
    rw [rdPl' (x := plOf (i / m, (⟨100 * (i / m : Nat) + (i % m : Nat), 1, 1⟩ : Sp))) (by rw [List.getElem?_map, rowsF_cell hi]; rfl)]
    rw [tdiv_nat, tmod_nat]
    have hb : i < 9000000000000000000 := by have := Nat.mul_le_mul hn hm; omega
    have hnext : Ev (fun k => purflinglaw07_GridPlain.l2 k n m true ((cellsFrom 0 (rowsF n m)).map plOf) c (wrap64 ((i : Int) + 1))) true := by
      rw [up_ok hb]
      exact gp_l2 n m hn hm c he d (i + 1) (by omega)
    generalize i / m = A at hd ⊢
    generalize i % m = B at hmod ⊢
    rw [wrap_ok (x := (A : Int)) (by omega) (by omega), wrap_ok (x := 100 * (A : Int)) (by omega) (by omega), wrap_ok (x := 100 * (A : Int) + (B : Int)) (by omega) (by omega)]
    refine ev_neg ?_ hnext
    unfold plOf
    have e : (100 * (A : Int) + (B : Int) - 100 * (A : Int)) = (B : Int) := by omega
    simp [e]
theorem gp_end (n m : Nat) (hn : n ≤ 50) (hm : m ≤ 50) : Ev (fun k => purflinglaw07_GridPlain.l0 k n m true (rowsF n m) (endsF n) n) true := by
  obtain ⟨c, hl, hc, he⟩ := plain_lay n m hn hm
  have hlen : ((cellsFrom 0 (rowsF n m)).map plOf).length = n * m := by rw [List.length_map, rowsF_cells_len]
  have hnm : n * m ≤ 50 * 50 := Nat.mul_le_mul hn hm
  have hw : wrap64 ((n : Int) * m) = ((n * m : Nat) : Int) := by rw [← Int.natCast_mul]; exact wrap_ok (by omega) (by omega)
  have j3 : Ev (fun k => purflinglaw07_GridPlain.j3 k n m true ((cellsFrom 0 (rowsF n m)).map plOf) c false) true :=
    by
    have h2 := gp_l2 n m hn hm c he (n * m) 0 (by omega)
    refine Ev.step (fun k => by rw [purflinglaw07_GridPlain.j3]) ?_
    exact ev_neg (by decide) h2
  refine Ev.step (fun k => by rw [purflinglaw07_GridPlain.l0]) (ev_neg (by omega) (ev_bind (ev_const hl) (ev_pos rfl ?_)))
  refine ev_pos ?_ ?_
  · rw [hw, ← hlen]
  by_cases q : c = (m : Int)
  · exact ev_pos q j3
  · refine ev_neg q ?_
    have : ¬ n > 0 := fun h => q (hc h)
    rw [show decide ((n : Int) > 0) = false from decide_eq_false (by omega)]
    exact j3
theorem gp_l1 (n m : Nat) (hn : n ≤ 50) (hm : m ≤ 50) (r : Nat) (hr : r < n) (ends : List Int) (next : Ev (fun k => purflinglaw07_GridPlain.l0 k n m true (rowsQ n m r m) ends (wrap64 ((r : Int) + 1))) true) :
    ∀ (d q : Nat), q + d = m → Ev (fun k => purflinglaw07_GridPlain.l1 k n m true (rowsQ n m r q) ends r q) true
  | 0, q, h => by
    obtain rfl : q = m := by omega
    exact Ev.step (fun k => by rw [purflinglaw07_GridPlain.l1]) (ev_neg (by omega) next)
  | d + 1, q, h => by
    refine Ev.step (fun k => by rw [purflinglaw07_GridPlain.l1]) (ev_pos (by omega) (ev_pos (by omega) (ev_pos (by rw [rowsQ_len]; omega) (ev_pos (by rw [rowsQ_rd n m r q hr, frP_len]; omega) ?_))))
    rw [rowsQ_rd n m r q hr, Int.toNat_natCast, wrap_ok (x := 100 * (r : Int)) (by omega) (by omega), wrap_ok (x := 100 * (r : Int) + (q : Int)) (by omega) (by omega), rowsQ_next n m r q hr, up_ok (by omega)]
    exact gp_l1 n m hn hm r hr ends next d (q + 1) (by omega)
theorem gp_l0 (n m : Nat) (hn : n ≤ 50) (hm : m ≤ 50) : ∀ (d r : Nat), r + d = n → Ev (fun k => purflinglaw07_GridPlain.l0 k n m true (rowsQ n m r 0) (endsQ n r) r) true
  | 0, r, h => by
    obtain rfl : r = n := by omega
    exact gp_end r m hn hm
  | d + 1, r, h => by
    refine Ev.step (fun k => by rw [purflinglaw07_GridPlain.l0]) (ev_pos (by omega) (ev_pos (by omega) (ev_pos (by rw [endsQ_len]; omega) ?_)))
    rw [Int.toNat_natCast, endsQ_next n r (by omega)]
    refine gp_l1 n m hn hm r (by omega) _ ?_ m 0 (by omega)
    rw [rowsQ_row, up_ok (by omega)]
    exact gp_l0 n m hn hm d (r + 1) (by omega)
theorem GridPlain (a0 a1 : Int) (g0 : (Lit.int .i64 a0).wf = true) (g1 : (Lit.int .i64 a1).wf = true) : ∃ k, purflinglaw07_GridPlain.f k a0 a1 = some true := by
  apply Ev.rounds
  unfold purflinglaw07_GridPlain.f
  refine ev_bind shown_ev ?_
  have no : Ev (fun k => purflinglaw07_GridPlain.j0 k a0 a1 true true) true := Ev.step (fun k => by rw [purflinglaw07_GridPlain.j0]) (ev_pos rfl (ev_now rfl))
  by_cases q1 : a0 < 0
  · exact ev_pos q1 no
  refine ev_neg q1 ?_
  by_cases q2 : a0 > 50
  · exact ev_pos q2 no
  refine ev_neg q2 ?_
  by_cases q3 : a1 < 0
  · exact ev_pos q3 no
  refine ev_neg q3 ?_
  by_cases q4 : a1 > 50
  · rw [decide_eq_true q4]; exact no
  rw [decide_eq_false q4]
  obtain ⟨n, rfl⟩ := Int.eq_ofNat_of_zero_le (show 0 ≤ a0 by omega)
  obtain ⟨m, rfl⟩ := Int.eq_ofNat_of_zero_le (show 0 ≤ a1 by omega)
  refine Ev.step (fun k => by rw [purflinglaw07_GridPlain.j0]) (ev_neg (by decide) (ev_pos (by omega) (ev_pos (by omega) (ev_pos (by omega) ?_))))
  rw [Int.toNat_natCast, rowsQ_zero n m, endsQ_zero n]
  exact gp_l0 n m (by omega) (by omega) n 0 (by omega)
end Go.Proofs.Ytfoocmmjefdojaa.Pure
