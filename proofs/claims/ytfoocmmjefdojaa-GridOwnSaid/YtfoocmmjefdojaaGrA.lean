/- Layer 7: iterators, Right. -/
import Derived.Test.YtfoocmmjefdojaaBlk
import Derived.Test.YtfoocmmjefdojaaG1
namespace Go.Proofs.Ytfoocmmjefdojaa.K
open Go.RowKit Go.Proofs.YtfoocmmjefdojaaW.PrintWords Go.Proofs.YtfoocmmjefdojaaW.PrintLast Go.Proofs.YtfoocmmjefdojaaW.PrintMore
set_option linter.unusedVariables false
set_option linter.unusedSimpArgs false
attribute [local go_sem] Oper.semAt_some

abbrev Sp := S34
def cellsFrom {α : Type} (r : Nat) : List (List α) → List (Nat × α)
  | [] => []
  | row :: rows => row.map (fun c => (r, c)) ++ cellsFrom (r + 1) rows
def spC (c : Sp) : List Value := [.int .i64 c.f0, .int .i64 c.f1, .int .i64 c.f2]
def cellV (x : Nat × Sp) : Array Value := #[.int .i64 (x.1 : Int), .agg (spC x.2).toArray]

theorem cells_take {α : Type} : ∀ (rows : List (List α)) (r k : Nat) (row : List α), rows[k]? = some row → cellsFrom r (rows.take (k + 1)) = cellsFrom r (rows.take k) ++ row.map (fun c => (r + k, c))
  | [], r, k, row, h => by simp at h
  | y :: ys, r, 0, row, h => by simp at h; subst h; simp [cellsFrom]
  | y :: ys, r, k + 1, row, h => by
    simp at h
    rw [List.take_succ_cons, List.take_succ_cons, cellsFrom, cellsFrom, cells_take ys (r + 1) k row h, List.append_assoc]
    congr 3; funext c; congr 1; omega
theorem cells_drop {α : Type} : ∀ (rows : List (List α)) (r k : Nat), cellsFrom r rows = cellsFrom r (rows.take k) ++ cellsFrom (r + k) (rows.drop k)
  | rows, r, 0 => by simp [cellsFrom]
  | [], r, k + 1 => by simp [cellsFrom]
  | y :: ys, r, k + 1 => by
    rw [List.take_succ_cons, List.drop_succ_cons, cellsFrom, cellsFrom, cells_drop ys (r + 1) k, List.append_assoc, Nat.add_right_comm, Nat.add_assoc]
theorem cells_split {α : Type} {rows : List (List α)} {k m : Nat} {row : List α} {c : α} (hk : rows[k]? = some row) (hm : row[m]? = some c) :
    ∃ rest, cellsFrom 0 rows = (cellsFrom 0 (rows.take k) ++ (row.take m).map (fun c => (k, c))) ++ (k, c) :: rest := by
  obtain ⟨hl, rfl⟩ := List.getElem?_eq_some_iff.1 hk
  obtain ⟨hn, rfl⟩ := List.getElem?_eq_some_iff.1 hm
  refine ⟨(rows[k].drop (m + 1)).map (fun c => (k, c)) ++ cellsFrom (k + 1) (rows.drop (k + 1)), ?_⟩
  rw [cells_drop rows 0 k, List.drop_eq_getElem_cons hl, cellsFrom, Nat.zero_add, List.append_assoc]
  congr 1
  have e : rows[k] = rows[k].take m ++ rows[k][m] :: rows[k].drop (m + 1) := by rw [← List.drop_eq_getElem_cons hn, List.take_append_drop]
  generalize hq : cellsFrom (k + 1) (rows.drop (k + 1)) = q
  generalize rows[k][m] = y at e ⊢
  generalize rows[k].take m = u at e ⊢
  generalize rows[k].drop (m + 1) = v at e ⊢
  rw [e]; simp

/-- the rows lie at A, each row's own slice as H tells -/
def RowsAt (W : World) (A : Option Addr) (H : Nat → Option Addr × Nat) (rows : List (List Sp)) : Prop :=
  ∀ (k : Nat) (row : List Sp), rows[k]? = some row → ∃ ad, A = some ad ∧ W.cell? (ad.add k) = some (.slice (H k).1 row.length (H k).2) ∧ row.length ≤ (H k).2 ∧ Kd.C k34 W (H k).1 row.length row
theorem rowsAt_of {W : World} {A : Option Addr} {rows : List (List Sp)} (h : Kd.C (Kd.slice 34 k34) W A rows.length rows) : ∃ H, RowsAt W A H rows := by
  have : ∀ k, ∃ p : Option Addr × Nat, ∀ row, rows[k]? = some row → ∃ ad, A = some ad ∧ W.cell? (ad.add k) = some (.slice p.1 row.length p.2) ∧ row.length ≤ p.2 ∧ Kd.C k34 W p.1 row.length row := by
    intro k
    cases hk : rows[k]? with
    | none => exact ⟨(none, 0), fun row h => by cases h⟩
    | some row =>
      have hlt := (List.getElem?_eq_some_iff.1 hk).1
      obtain ⟨ad, hA, hcells⟩ := h.2.2 (by omega)
      obtain ⟨cs, hcl, hK, hcell⟩ := hcells k row hk
      obtain ⟨Ar, cr, hcs, hlr, hCr⟩ := hK
      subst hcs
      refine ⟨(Ar, cr), fun row' h' => ?_⟩
      cases h'
      have hx0 : W.cell? (ad.add (k * 1)) = some (.slice Ar row.length cr) := hcell 0 _ rfl
      rw [Nat.mul_one] at hx0
      exact ⟨ad, hA, hx0, hlr, hCr⟩
  exact ⟨fun k => Classical.choose (this k), fun k => Classical.choose_spec (this k)⟩
theorem RowsAt.below {W W' : World} {A : Option Addr} {H : Nat → Option Addr × Nat} {rows : List (List Sp)} (h : RowsAt W A H rows) (hb : Below W.heap.size W W') : RowsAt W' A H rows := by
  intro k row hk
  obtain ⟨ad, hA, hc, hl, hC⟩ := h k row hk
  exact ⟨ad, hA, (hb.cell (World.block_lt_of_cell? W _ hc)).trans hc, hl, Kd.C_below hC hb⟩

set_option maxRecDepth 100000 in
set_option maxHeartbeats 1000000 in
theorem cells1_iter (rows : List (List Sp)) (b : Nat) (A : Option Addr) (H : Nat → Option Addr × Nat) (c : Nat) (hc : rows.length ≤ c) (hbig : rows.length ≤ 9223372036854775807) :
    IterC Try.prog 52 #[.pointer (some ⟨b, 0, none⟩)] cellV (cellsFrom 0 rows) (fun W => W.cell? ⟨b, 0, none⟩ = some (.slice A rows.length c) ∧ RowsAt W A H rows) := by
  intro lp J Jx W hJ hJx hRd hY h0
  refine callsIn_wide.1 (callsIn_of_wp (n := 0) Try.func52 rfl trivial ?_ rfl)
  simp only [Try.ntmps52, List.size_toArray, List.length_cons, List.length_nil, Nat.reduceAdd, Nat.reduceSub, Array.replicate_succ, Array.replicate_zero, List.push_toArray, List.append_toArray, List.nil_append, List.cons_append]
  obtain ⟨hcell, -⟩ := hRd [] W h0
  have HY := Lib.hid hY
  have HR := Lib.hid hRd
  have HJ := Lib.hid hJ
  clear hY hRd hJ hJx
  gi_wp2
  gi_loopw [3, 4, 6, 9] (fun _ _ _ i wr => ∃ k : Nat, k ≤ rows.length ∧ i = .int .i64 k ∧ J (cellsFrom 0 (rows.take k)) wr) (fun _ _ _ i _ => rows.length - (intOf i).toNat)
  case atStart => exact ⟨0, by omega, rfl, h0⟩
  case round =>
    obtain ⟨k, hk, rfl, hJk⟩ := hrel
    clear h0 hcell
    by_cases hlt : k < rows.length
    · have hltz : (k : Int) < (rows.length : Int) := by omega
      obtain ⟨row, hx⟩ : ∃ row, rows[k]? = some row := ⟨_, List.getElem?_eq_getElem hlt⟩
      obtain ⟨ad, hA, hx0, hlr, hCr⟩ := (HR.out _ _ hJk).2 k row hx
      subst hA
      have HX := Lib.hid hx
      have hbr := hCr.2.1
      have hJ0 : J (cellsFrom 0 (rows.take k) ++ (row.take 0).map (fun c => (k, c))) wr := by simpa using hJk
      clear hCr hx hJk
      obtain ⟨Ar, hAr⟩ : ∃ Ar, Ar = (H k).1 := ⟨_, rfl⟩
      obtain ⟨cr, hcr⟩ : ∃ cr, cr = (H k).2 := ⟨_, rfl⟩
      have HAr := Lib.hid hAr
      have HCr := Lib.hid hcr
      rw [← hAr, ← hcr] at hx0
      clear hAr hcr hlr
      gi_wp2
      gi_loopw [6, 16] (fun _ i wr => ∃ m : Nat, m ≤ row.length ∧ i = .int .i64 m ∧ J (cellsFrom 0 (rows.take k) ++ (row.take m).map (fun c => (k, c))) wr) (fun _ i _ => row.length - (intOf i).toNat)
      case atStart => exact ⟨0, by omega, rfl, hJ0⟩
      case round =>
        obtain ⟨m, hm, rfl, hJm⟩ := hrel
        clear hx0 hJ0
        by_cases hlt2 : m < row.length
        · have hltz2 : (m : Int) < (row.length : Int) := by omega
          obtain ⟨x, hx⟩ : ∃ x, row[m]? = some x := ⟨_, List.getElem?_eq_getElem hlt2⟩
          obtain ⟨ad2, hA2, hx0, hlr, hCr⟩ := (HR.out _ _ hJm).2 k row HX.out
          rw [← HAr.out] at hCr
          obtain ⟨ar, hA, hcells⟩ := hCr.2.2 (by omega)
          obtain ⟨cs, hcl, hK, hcell⟩ := hcells m x hx
          obtain rfl := k34_open hK
          have y0 : wr.cell? (ar.add (m * 3)) = some (.int .i64 x.f0) := hcell 0 _ rfl
          have y1 : wr.cell? ⟨(ar.add (m * 3)).block, (ar.add (m * 3)).off + 1, none⟩ = some (.int .i64 x.f1) := by rw [← add_field _ _ 1 (by omega)]; exact hcell 1 _ rfl
          have y2 : wr.cell? ⟨(ar.add (m * 3)).block, (ar.add (m * 3)).off + 2, none⟩ = some (.int .i64 x.f2) := by rw [← add_field _ _ 2 (by omega)]; exact hcell 2 _ rfl
          obtain ⟨rest, hrest⟩ := cells_split HX.out hx
          have hJa := HJ.out _ _ _ hJm (World.grownBy_alloc wr (.cells (spC x).toArray 34) none)
          have HJA := Lib.hid hJa
          have HE := Lib.hid (show cellsFrom 0 (rows.take k) ++ (row.take m).map (fun c => (k, c)) ++ [(k, x)] = cellsFrom 0 (rows.take k) ++ (row.take (m + 1)).map (fun c => (k, c)) by rw [List.take_add_one, hx]; simp)
          subst hA
          clear hcells hcell hK hcl hx hJa hx0 hlr hCr hA2 hJm
          obtain ⟨fn, tmps, assign, body, hy, hR⟩ := HY.out _ (k, x) _ _ hrest HJA.out
          have HRest := Lib.hid hrest
          clear hrest
          dsimp only [cellV, spC] at hy
          gi_wp2
          refine hR.mono ?_
          rintro e W3 (⟨rfl, hJ3⟩ | ⟨rfl, hJ3⟩)
          · gi_wp2
            go_roundw
            case rel => exact ⟨m + 1, by omega, by go_num, by rw [← HE.out]; exact hJ3⟩
            case measure => simp [intOf]; omega
          · gi_wp2
            refine bodyPost_ret (results_none rfl _ _ _) rfl ?_
            exact ⟨⟨_, rfl⟩, .inr ⟨_, (k, x), _, HRest.out, hJ3⟩⟩
        · have hml : m = row.length := by omega
          subst hml
          have hJn : J (cellsFrom 0 (rows.take (k + 1))) wr := by
            have h := hJm
            rw [List.take_length] at h
            rw [cells_take rows 0 k row HX.out, Nat.zero_add]; exact h
          have HJn := Lib.hid hJn
          clear hJm hJn
          gi_wp2
          go_roundw
          case rel => exact ⟨k + 1, by omega, by go_num, HJn.out⟩
          case measure => simp [intOf]; omega
    · have hkl : k = rows.length := by omega
      subst hkl
      rw [List.take_length] at hJk
      have HJK := Lib.hid hJk
      clear hJk
      gi_wp2
      refine bodyPost_end (results_none rfl _ _ _) rfl ?_
      exact ⟨⟨_, rfl⟩, .inl HJK.out⟩

theorem cells_any (rows : List (List Sp)) (A : Option Addr) (c : Nat) (w : World) :
    Calls Try.prog 34 #[.slice A rows.length c] w fun e w' => e = .returned (.func (.func 52) #[] #[.pointer (some ⟨w.heap.size, 0, none⟩)]) ∧ w.alloc (.cells #[.slice A rows.length c] 22) = w' := by
  go_enter Try.func34, Try.ntmps34
  go_wp2
  go_ret
  exact ⟨rfl, rfl⟩
end Go.Proofs.Ytfoocmmjefdojaa.K
namespace Go.Proofs.Ytfoocmmjefdojaa.K
open Go.RowKit Go.Proofs.YtfoocmmjefdojaaW.PrintWords Go.Proofs.YtfoocmmjefdojaaW.PrintLast Go.Proofs.YtfoocmmjefdojaaW.PrintMore
set_option linter.unusedVariables false
set_option linter.unusedSimpArgs false
attribute [local go_sem] Oper.semAt_some

/-- the slots of a place, by rows; told from its corner on -/
def slotsOf (nr nc : Nat) : List (Nat × Nat) := cellsFrom 0 (List.replicate nr (List.range nc))
def slotV (p1 p2 : Int) (x : Nat × Nat) : Array Value := #[.agg #[.int .i64 (p1 + (x.1 : Int)), .int .i64 (p2 + (x.2 : Int))]]
def placeC (p0 p1 p2 p3 p4 : Int) : Array Value := #[.int .i64 p0, .int .i64 p1, .int .i64 p2, .int .i64 p3, .int .i64 p4]

set_option maxRecDepth 100000 in
set_option maxHeartbeats 1000000 in
theorem owned1_iter (p0 p1 p2 : Int) (nr nc : Nat) (b : Nat) (h1 : 0 ≤ p1 ∧ p1 + nr ≤ 65536) (h2 : 0 ≤ p2 ∧ p2 + nc ≤ 65536) :
    IterC Try.prog 54 #[.pointer (some ⟨b, 0, none⟩)] (slotV p1 p2) (slotsOf nr nc) (fun W => BlkIs W b 40 (placeC p0 p1 p2 nr nc)) := by
  intro lp J Jx W hJ hJx hRd hY h0
  refine callsIn_wide.1 (callsIn_of_wp (n := 0) Try.func54 rfl trivial ?_ rfl)
  simp only [Try.ntmps54, List.size_toArray, List.length_cons, List.length_nil, Nat.reduceAdd, Nat.reduceSub, Array.replicate_succ, Array.replicate_zero, List.push_toArray, List.append_toArray, List.nil_append, List.cons_append]
  have hcell : W.cell? ⟨b, 3, none⟩ = some (.int .i64 nr) := BlkIs.cell (hRd [] W h0) 3
  have HY := Lib.hid hY
  have HR := Lib.hid hRd
  have HJ := Lib.hid hJ
  clear hY hRd hJ hJx
  gi_wp2
  gi_loopw [3, 4, 7] (fun _ _ i wr => ∃ k : Nat, k ≤ nr ∧ i = .int .i64 k ∧ J (cellsFrom 0 ((List.replicate nr (List.range nc)).take k)) wr) (fun _ _ i _ => nr - (intOf i).toNat)
  case atStart => exact ⟨0, by omega, rfl, h0⟩
  case round =>
    obtain ⟨k, hk, rfl, hJk⟩ := hrel
    clear h0 hcell
    by_cases hlt : k < nr
    · have hltz : (k : Int) < (nr : Int) := by omega
      have hx : (List.replicate nr (List.range nc))[k]? = some (List.range nc) := by rw [List.getElem?_replicate, if_pos hlt]
      have HX := Lib.hid hx
      have y4 : wr.cell? ⟨b, 4, none⟩ = some (.int .i64 nc) := BlkIs.cell (HR.out _ _ hJk) 4
      have hJ0 : J (cellsFrom 0 ((List.replicate nr (List.range nc)).take k) ++ ((List.range nc).take 0).map (fun c => (k, c))) wr := by simpa using hJk
      clear hx hJk
      gi_wp2
      gi_loopw [4, 12] (fun _ i wr => ∃ m : Nat, m ≤ nc ∧ i = .int .i64 m ∧ J (cellsFrom 0 ((List.replicate nr (List.range nc)).take k) ++ ((List.range nc).take m).map (fun c => (k, c))) wr) (fun _ i _ => nc - (intOf i).toNat)
      case atStart => exact ⟨0, by omega, rfl, hJ0⟩
      case round =>
        obtain ⟨m, hm, rfl, hJm⟩ := hrel
        clear y4 hJ0
        by_cases hlt2 : m < nc
        · have hltz2 : (m : Int) < (nc : Int) := by omega
          have hx : (List.range nc)[m]? = some m := by rw [List.getElem?_range hlt2]
          have y1 : wr.cell? ⟨b, 1, none⟩ = some (.int .i64 p1) := BlkIs.cell (HR.out _ _ hJm) 1
          have y2 : wr.cell? ⟨b, 2, none⟩ = some (.int .i64 p2) := BlkIs.cell (HR.out _ _ hJm) 2
          obtain ⟨rest, hrest⟩ := cells_split HX.out hx
          have HE := Lib.hid (show cellsFrom 0 ((List.replicate nr (List.range nc)).take k) ++ ((List.range nc).take m).map (fun c => (k, c)) ++ [(k, m)] = cellsFrom 0 ((List.replicate nr (List.range nc)).take k) ++ ((List.range nc).take (m + 1)).map (fun c => (k, c)) by rw [List.take_add_one, hx]; simp)
          obtain ⟨fn, tmps, assign, body, hy, hR⟩ := HY.out _ (k, m) _ _ hrest hJm
          have HRest := Lib.hid hrest
          clear hrest hx hJm
          dsimp only [slotV] at hy
          gi_wp2
          refine hR.mono ?_
          rintro e W3 (⟨rfl, hJ3⟩ | ⟨rfl, hJ3⟩)
          · gi_wp2
            go_roundw
            case rel => exact ⟨m + 1, by omega, by go_num, by rw [← HE.out]; exact hJ3⟩
            case measure => simp [intOf]; omega
          · gi_wp2
            refine bodyPost_ret (results_none rfl _ _ _) rfl ?_
            exact ⟨⟨_, rfl⟩, .inr ⟨_, (k, m), _, HRest.out, hJ3⟩⟩
        · have hml : m = nc := by omega
          subst hml
          have hJn : J (cellsFrom 0 ((List.replicate nr (List.range m)).take (k + 1))) wr := by
            have h := hJm
            rw [show (List.range m).take m = List.range m from List.take_of_length_le (by simp)] at h
            rw [cells_take _ 0 k _ HX.out, Nat.zero_add]; exact h
          have HJn := Lib.hid hJn
          clear hJm hJn
          gi_wp2
          go_roundw
          case rel => exact ⟨k + 1, by omega, by go_num, HJn.out⟩
          case measure => simp [intOf]; omega
    · have hkl : k = nr := by omega
      subst hkl
      rw [List.take_of_length_le (by simp)] at hJk
      have HJK := Lib.hid hJk
      clear hJk
      gi_wp2
      refine bodyPost_end (results_none rfl _ _ _) rfl ?_
      exact ⟨⟨_, rfl⟩, .inl HJK.out⟩

theorem owned_any (p0 p1 p2 p3 p4 : Int) (w : World) :
    Calls Try.prog 38 #[.agg (placeC p0 p1 p2 p3 p4)] w fun e w' => e = .returned (.func (.func 54) #[] #[.pointer (some ⟨w.heap.size, 0, none⟩)]) ∧ w.alloc (.cells (placeC p0 p1 p2 p3 p4) 40) = w' := by
  unfold placeC
  go_enter Try.func38, Try.ntmps38
  go_wp2
  go_ret
  exact ⟨rfl, rfl⟩
end Go.Proofs.Ytfoocmmjefdojaa.K
namespace Go.Proofs.Ytfoocmmjefdojaa.K
open Go.RowKit Go.Proofs.YtfoocmmjefdojaaW.PrintWords Go.Proofs.YtfoocmmjefdojaaW.PrintLast Go.Proofs.YtfoocmmjefdojaaW.PrintMore
set_option linter.unusedVariables false
set_option linter.unusedSimpArgs false
attribute [local go_sem] Oper.semAt_some

theorem c_one_t (t : TypeId) (W : World) (a : Int) : Kd.C (Kd.int .i64) (W.alloc (.cells #[.int .i64 a] t)) (some ⟨W.heap.size, 0, none⟩) [a].length [a] :=
  ⟨rfl, by simp, fun _ => ⟨_, rfl, fun j p hj => by
    match j, hj with
    | 0, hj => simp at hj; subst hj; exact ⟨[.int .i64 a], rfl, rfl, fun i u hu => by
        obtain rfl : i = 0 := by have := (List.getElem?_eq_some_iff.1 hu).1; simpa using this
        simp at hu; subst hu; simp [Addr.add]⟩⟩⟩
theorem gwithin_f (a b n : Int) : G.grid_within.f 3 a b [n] = some (decide (a ≤ n ∧ n ≤ b)) := by
  unfold G.grid_within.f
  by_cases h1 : n < a
  · simp [G.grid_within.l0, rd, h1]; omega
  · by_cases h2 : n > b
    · simp [G.grid_within.l0, rd, h1, h2]
    · simp [G.grid_within.l0, rd, h1, h2, wrap64]; omega
theorem gwithin_one (a b n : Int) (W : World) (B : Nat) (hB : B = W.heap.size) :
    Calls Try.prog 37 #[.int .i64 a, .int .i64 b, .slice (some ⟨B, 0, none⟩) 1 1] (W.alloc (.cells #[.int .i64 n] 3)) fun e w' => e = .returned (.bool (decide (a ≤ n ∧ n ≤ b))) ∧ Below (W.alloc (.cells #[.int .i64 n] 3)).heap.size (W.alloc (.cells #[.int .i64 n] 3)) w' :=
  (G.grid_within.calls 3 a b (some ⟨B, 0, none⟩) 1 [n] _ _ (by rw [hB]; exact c_one_t _ W n) (Nat.le_refl _) (gwithin_f a b n)).mono fun e w' h => ⟨h.1, h.2.below⟩

theorem BlkIs.call {w w' : World} {b t : Nat} {cs : Array Value} {o : Obj} (h : BlkIs w b t cs) (hb : Below (w.alloc o).heap.size (w.alloc o) w') : BlkIs w' b t cs := (hb.block _ (BlkIs.lt (BlkIs.alloc h o))).trans (BlkIs.alloc h o)
theorem below_call {n : Nat} {w0 w w' : World} {o : Obj} (h : Below n w0 w) (hn : n ≤ w.heap.size) (hb : Below (w.alloc o).heap.size (w.alloc o) w') : Below n w0 w' := (h.alloc hn _).trans (hb.mono (by simp; omega))
theorem keep_call {w0 w w' : World} {o : Obj} (h : KeepBook w0 w) (hb : Below (w.alloc o).heap.size (w.alloc o) w') : KeepBook w0 w' := (h.alloc _).below hb

def endOK (n : Nat) (p : Int × Nat) : Bool := decide ((p.2 : Int) + 1 ≤ p.1 ∧ p.1 ≤ n)
def spOK (x : Nat × Sp) : Bool := decide (1 ≤ x.2.f1 ∧ x.2.f1 ≤ 1000) && decide (0 ≤ x.2.f2 ∧ x.2.f2 ≤ 1000)
def gridRightB (rows : List (List Sp)) (ends : List Int) : Bool := (decide (rows.length = ends.length) && decide (rows.length ≤ 65536)) && ends.zipIdx.all (endOK rows.length) && (cellsFrom 0 rows).all spOK
theorem zip_at {ends : List Int} {k : Nat} {e : Int} (h : ends[k]? = some e) : ends.zipIdx.take (k + 1) = ends.zipIdx.take k ++ [(e, k)] := by
  rw [List.take_add_one, List.getElem?_zipIdx, h]; simp

set_option maxRecDepth 100000 in
set_option maxHeartbeats 4000000 in
theorem gright_any (rows : List (List Sp)) (ends : List Int) (A0 A1 : Option Addr) (c0 c1 : Nat) (w : World) (hr0 : Kd.C (Kd.slice 34 k34) w A0 rows.length rows) (hc0 : rows.length ≤ c0) (hr1 : Kd.C (Kd.int .i64) w A1 ends.length ends) (hc1 : ends.length ≤ c1) :
    Calls Try.prog 19 #[.slice A0 rows.length c0, .slice A1 ends.length c1] w fun e w' => e = .returned (.bool (gridRightB rows ends)) ∧ Below w.heap.size w w' := by
  have hb0 := hr0.2.1
  have hb1 := hr1.2.1
  obtain ⟨H, hH⟩ := rowsAt_of hr0
  have HH := Lib.hid hH
  have H1 := Lib.hid hr1
  have HC0 := Lib.hid hc0
  clear hH hr0 hr1 hc0 hc1
  obtain ⟨g1, hg1⟩ : ∃ g : Bool, g = decide ((rows.length : Int) = (ends.length : Int)) := ⟨_, rfl⟩
  obtain ⟨g2, hg2⟩ : ∃ g : Bool, g = decide ((rows.length : Int) ≤ 65536) := ⟨_, rfl⟩
  have HG : Hid (gridRightB rows ends = ((g1 && g2) && ends.zipIdx.all (endOK rows.length) && (cellsFrom 0 rows).all spOK)) := Lib.hid (by
    unfold gridRightB
    rw [hg1, hg2]
    rw [show decide (rows.length = ends.length) = decide ((rows.length : Int) = (ends.length : Int)) from decide_eq_decide.2 (by omega), show decide (rows.length ≤ 65536) = decide ((rows.length : Int) ≤ 65536) from decide_eq_decide.2 (by omega)])
  have e1 : ((rows.length : Int) == (ends.length : Int)) = g1 := by rw [hg1]; rfl
  have e2 : decide ((rows.length : Int) ≤ 65536) = g2 := hg2.symm
  clear hg1 hg2
  obtain ⟨g0, hg0⟩ : ∃ g0 : Bool, g0 = (g1 && g2) := ⟨_, rfl⟩
  rw [← hg0] at HG
  refine calls_of_wp_marks Try.func19 rfl ?_
  simp only [Try.ntmps19, List.size_toArray, List.length_cons, List.length_nil, Nat.reduceAdd, Nat.reduceSub, Array.replicate_succ, Array.replicate_zero, List.push_toArray, List.append_toArray, List.nil_append, List.cons_append]
  cases g1
  all_goals cases g2
  all_goals
    go_upto_region 2 with fail
  all_goals
    simp only [Bool.and_false, Bool.and_true, Bool.false_and] at hg0
    obtain ⟨W1, hW1⟩ : ∃ W1, W1 = w.alloc (.cells #[.bool g0] 4) := ⟨_, rfl⟩
    have hX1 : Aside0 (BlkIs W1 w.heap.size 4 #[.bool g0]) := ⟨by rw [hW1]; exact World.alloc_heap_new w _⟩
    have hB1 : Aside0 (Below w.heap.size w W1) := ⟨by rw [hW1]; exact (Below.refl _ w).alloc (Nat.le_refl _) _⟩
    rw [hg0] at hW1
    rw [← hW1]
    clear hW1 hg0 e1 e2
    go_wp2
    go_loopw [6, 7, 22] (fun _ _ i wr => ∃ k : Nat, k ≤ ends.length ∧ i = .int .i64 k ∧ Aside0 (BlkIs wr w.heap.size 4 #[.bool (g0 && (ends.zipIdx.take k).all (endOK rows.length))]) ∧ Aside0 (Below w.heap.size w wr)) (fun _ _ i _ => ends.length - (intOf i).toNat)
    case atStart => exact ⟨0, by omega, rfl, by simpa using hX1, hB1⟩
    case round =>
      obtain ⟨k, hk, rfl, hX, hB⟩ := hrel
      clear hX1 hB1
      by_cases hlt : k < ends.length
      · have hltz : (k : Int) < (ends.length : Int) := by omega
        obtain ⟨x, hx⟩ : ∃ x, ends[k]? = some x := ⟨_, List.getElem?_eq_getElem hlt⟩
        obtain ⟨ad, hA, hcells⟩ := H1.out.2.2 (by omega)
        obtain ⟨cs, hcl, hK, hcell⟩ := hcells k x hx
        obtain rfl : cs = [.int .i64 x] := hK
        have hx0 : wr.cell? (ad.add (k * 1)) = some (.int .i64 x) := (hB.out.cell (World.block_lt_of_cell? w _ (hcell 0 _ rfl))).trans (hcell 0 _ rfl)
        rw [Nat.mul_one] at hx0
        subst hA
        have HZ := Lib.hid (zip_at hx)
        clear hcells hcl hcell hx
        obtain ⟨v, hv⟩ : ∃ v, v = (g0 && (ends.zipIdx.take k).all (endOK rows.length)) := ⟨_, rfl⟩
        rw [← hv] at hX
        have HV := Lib.hid hv
        clear hv
        have hc := BlkIs.cell hX.out 0
        have hf := BlkIs.frozen hX.out 0
        have hl := BlkIs.lt hX.out
        replace hc : wr.cell? ⟨w.heap.size, 0, none⟩ = some (.bool v) := hc
        cases v
        · go_wp2
          go_roundw
          case rel =>
            refine ⟨k + 1, by omega, by go_num, ⟨?_⟩, ⟨hB.out.setCell (p := ⟨w.heap.size, 0, none⟩) (Nat.le_refl _) _⟩⟩
            rw [HZ.out, List.all_append, ← Bool.and_assoc, ← HV.out]
            exact BlkIs.set hX.out 0 _
          case measure => simp [intOf]; omega
        · go_wp2_with (go_at_call 37; refine (gwithin_one _ _ _ _ _ (by simp)).mono ?_; rintro e w4 ⟨rfl, hb4⟩; have hX4 := (BlkIs.alloc hX.out (.cells #[.int .i64 x] 3)); have hX5 : BlkIs w4 w.heap.size 4 #[.bool true] := ((hb4.block _ (BlkIs.lt hX4)).trans hX4); have hc5 := BlkIs.cell hX5 0; have hf5 := BlkIs.frozen hX5 0; have hl5 := BlkIs.lt hX5)
          go_roundw
          case rel =>
            refine ⟨k + 1, by omega, by go_num, ⟨?_⟩, ⟨((hB.out.alloc hB.out.size _).trans (hb4.mono (by have := hB.out.size; simp; omega))).setCell (p := ⟨w.heap.size, 0, none⟩) (Nat.le_refl _) _⟩⟩
            rw [HZ.out, List.all_append, ← Bool.and_assoc, ← HV.out, Bool.true_and]
            have h := BlkIs.set hX5 0 (.bool (decide ((k : Int) + 1 ≤ x ∧ x ≤ rows.length)))
            simpa [endOK] using h
          case measure => simp [intOf]; omega
      · have hkl : k = ends.length := by omega
        subst hkl
        have hX2 : Aside0 (BlkIs wr w.heap.size 4 #[.bool (g0 && ends.zipIdx.all (endOK rows.length))]) := ⟨by have h := hX.out; rwa [List.take_of_length_le (by simp)] at h⟩
        obtain ⟨v, hv⟩ : ∃ v, v = (g0 && ends.zipIdx.all (endOK rows.length)) := ⟨_, rfl⟩
        rw [← hv] at hX2 HG
        clear hX hv
        go_wp2_with (go_at_call 34; refine (cells_any rows A0 c0 _).mono ?_; rintro e w5 ⟨rfl, rfl⟩)
        have HL := Lib.hid (BlkIs.lt hX2.out)
        have hX3 : BlkIs (wr.alloc (.cells #[.slice A0 rows.length c0] 22)) w.heap.size 4 #[.bool v] := BlkIs.alloc hX2.out _
        have hC3 : BlkIs (wr.alloc (.cells #[.slice A0 rows.length c0] 22)) wr.heap.size 22 #[.slice A0 rows.length c0] := World.alloc_heap_new wr _
        have hB3 : Below w.heap.size w (wr.alloc (.cells #[.slice A0 rows.length c0] 22)) := hB.out.alloc hB.out.size _
        refine wp_range_plain (cells1_iter rows wr.heap.size A0 H c0 HC0.out hb0) (enters_of Try.func52 (by kernel_rfl) rfl) rfl (fun _ => rfl)
          (fun (pre : List (Nat × Sp)) W => BlkIs W w.heap.size 4 #[.bool (v && pre.all spOK)] ∧ BlkIs W wr.heap.size 22 #[.slice A0 rows.length c0] ∧ Below w.heap.size w W)
          (fun c W => False)
          (Stab.and (Stab.blk w.heap.size _ (fun (pre : List (Nat × Sp)) => #[.bool (v && pre.all spOK)])) (Stab.and (Stab.blk wr.heap.size _ (fun _ => #[.slice A0 rows.length c0])) (Stab.below (Nat.le_refl _) (by have := hB.out.size; simp; omega))))
          (Stab.pure _ (fun _ => False))
          (fun pre A h => ⟨BlkIs.cell h.2.1 0, HH.out.below h.2.2⟩) ⟨by simpa using hX3, hC3, hB3⟩ ?round ?done ?stop
        case stop => exact fun _ _ _ _ h => h.elim
        case done =>
          rintro D W hD ⟨hX, hb, hBW⟩ hbook hd
          have hcl := BlkIs.cell hX 0
          replace hcl : W.cell? ⟨w.heap.size, 0, none⟩ = some (.bool (v && (cellsFrom 0 rows).all spOK)) := hcl
          have hll := BlkIs.lt hX
          go_wp2
          refine leaves_marks (v := .bool (v && (cellsFrom 0 rows).all spOK)) (B := w.heap.size) ⟨[D], rfl, by simp, by have := hB.out.size; simp at hD ⊢; exact ⟨by omega, hd⟩⟩ (fun W' hs => ⟨?_, ?_, ?_⟩)
          · simp [results, Try.results19]
          · rw [HG.out]
          · exact hs.stab _ (Stab.below (Nat.le_refl _) (Nat.le_refl _)) hBW
        case round =>
          rintro lp pre ⟨r, ⟨m0, m1, m2⟩⟩ rest W hx hl ⟨hX, hb, hBW⟩
          clear hX3 hC3 hB3 hX2
          dsimp only [cellV, spC]
          gi_wp2
          refine ⟨by (repeat (first | (with_reducible exact KeepBook.refl _) | (with_reducible refine KeepBook.alloc ?_ _) | (with_reducible refine KeepBook.setCell ?_ _ _) | (with_reducible refine KeepBook.drew ?_) | (refine KeepBook.below ?_ (by assumption)))), ?_⟩
          rintro W2 hs _
          have hX4 : BlkIs W2 w.heap.size 4 #[.bool (v && pre.all spOK)] := hs.blk (BlkIs.alloc hX _)
          have hN4 : BlkIs W2 W.heap.size 34 #[.int .i64 m0, .int .i64 m1, .int .i64 m2] := hs.blk (World.alloc_heap_new W _)
          have HC4 := Lib.hid (show BlkIs W2 wr.heap.size 22 #[.slice A0 rows.length c0] from hs.blk (BlkIs.alloc hb _))
          have HB4 := Lib.hid (show Below w.heap.size w W2 from hs.below (hBW.alloc hBW.size _) (Nat.le_refl _) (by have := hB.out.size; simp; omega))
          obtain ⟨u, hu⟩ : ∃ u, u = (v && pre.all spOK) := ⟨_, rfl⟩
          rw [← hu] at hX4
          have HU := Lib.hid hu
          have y0 : W2.cell? ⟨w.heap.size, 0, none⟩ = some (.bool u) := BlkIs.cell hX4 0
          have f0 := BlkIs.frozen hX4 0
          have l0 := BlkIs.lt hX4
          have y1 : W2.cell? ⟨W.heap.size, 1, none⟩ = some (.int .i64 m1) := BlkIs.cell hN4 1
          have y2 : W2.cell? ⟨W.heap.size, 2, none⟩ = some (.int .i64 m2) := BlkIs.cell hN4 2
          have l1 := BlkIs.lt hN4
          have HX4 := Lib.hid hX4
          have HN4 := Lib.hid hN4
          clear hX hb hBW hs hx hX4 hN4 hu
          obtain ⟨N, hN⟩ : ∃ N, N = W.heap.size := ⟨_, rfl⟩
          rw [← hN] at y1 y2 l1 HN4 ⊢
          clear hN
          cases u
          · gi_wp2
            refine ⟨by (repeat (first | (with_reducible exact KeepBook.refl _) | (with_reducible refine KeepBook.alloc ?_ _) | (with_reducible refine KeepBook.setCell ?_ _ _) | (with_reducible refine KeepBook.drew ?_) | (refine KeepBook.below ?_ (by assumption)))), ?_, BlkIs.other HC4.out (p := ⟨w.heap.size, 0, none⟩) (by have := HL.out; simp; omega) _, HB4.out.setCell (p := ⟨w.heap.size, 0, none⟩) (Nat.le_refl _) _⟩
            rw [List.all_append, ← Bool.and_assoc, ← HU.out]
            exact BlkIs.set HX4.out 0 _
          · by_cases q1 : 1 ≤ m1 ∧ m1 ≤ 1000
            · have d1 : decide (1 ≤ m1 ∧ m1 ≤ 1000) = true := decide_eq_true q1
              have D1 := Lib.hid d1
              have K1 := Lib.hid (fun (W : World) => by have := gwithin_one 1 1000 m1 W _ rfl; rw [d1] at this; exact this : ∀ W : World, Calls Try.prog 37 #[.int .i64 1, .int .i64 1000, .slice (some ⟨W.heap.size, 0, none⟩) 1 1] (W.alloc (.cells #[.int .i64 m1] 3)) fun e w' => e = .returned (.bool true) ∧ Below (W.alloc (.cells #[.int .i64 m1] 3)).heap.size (W.alloc (.cells #[.int .i64 m1] 3)) w')
              have K2 := Lib.hid (fun (W : World) => gwithin_one 0 1000 m2 W _ rfl)
              clear d1 q1
              gi_wp2_with (first
                | (gi_at_call 37; (with_reducible refine (CallsIn.inRound _ (callsIn_wide.2 (K1.out _))).mono ?_); rintro e w5 ⟨rfl, hb5⟩; have hX5 := BlkIs.call HX4.out hb5; have hN5 := BlkIs.call HN4.out hb5; have y5 : w5.cell? ⟨N, 2, none⟩ = some (.int .i64 m2) := (BlkIs.cell hN5 2); have l5 := BlkIs.lt hX5; have f5 := BlkIs.frozen hX5 0; have l6 := BlkIs.lt hN5)
                | (gi_at_call 37; (with_reducible refine (CallsIn.inRound _ (callsIn_wide.2 (K2.out _))).mono ?_); rintro e w6 ⟨rfl, hb6⟩; have hX6 := BlkIs.call hX5 hb6; have y7 : w6.cell? ⟨w.heap.size, 0, none⟩ = some (.bool true) := (BlkIs.cell hX6 0); have l7 := BlkIs.lt hX6; have f7 := BlkIs.frozen hX6 0))
              refine ⟨(keep_call (keep_call (KeepBook.refl _) hb5) hb6).setCell _ _, ?_, BlkIs.other (BlkIs.call (BlkIs.call HC4.out hb5) hb6) (p := ⟨w.heap.size, 0, none⟩) (by have := HL.out; simp; omega) _, Below.setCell (p := ⟨w.heap.size, 0, none⟩) (below_call (below_call HB4.out HB4.out.size hb5) (below_call HB4.out HB4.out.size hb5).size hb6) (Nat.le_refl _) _⟩
              rw [List.all_append, ← Bool.and_assoc, ← HU.out]
              have h := BlkIs.set hX6 0 (.bool (decide (0 ≤ m2 ∧ m2 ≤ 1000)))
              have hd := D1.out
              simpa [spOK, hd] using h
            · have d1 : decide (1 ≤ m1 ∧ m1 ≤ 1000) = false := decide_eq_false q1
              have D1 := Lib.hid d1
              have K1 := Lib.hid (fun (W : World) => by have := gwithin_one 1 1000 m1 W _ rfl; rw [d1] at this; exact this : ∀ W : World, Calls Try.prog 37 #[.int .i64 1, .int .i64 1000, .slice (some ⟨W.heap.size, 0, none⟩) 1 1] (W.alloc (.cells #[.int .i64 m1] 3)) fun e w' => e = .returned (.bool false) ∧ Below (W.alloc (.cells #[.int .i64 m1] 3)).heap.size (W.alloc (.cells #[.int .i64 m1] 3)) w')
              clear d1 q1
              gi_wp2_with (gi_at_call 37; (with_reducible refine (CallsIn.inRound _ (callsIn_wide.2 (K1.out _))).mono ?_); rintro e w5 ⟨rfl, hb5⟩; have hX5 := BlkIs.call HX4.out hb5; have y5 : w5.cell? ⟨w.heap.size, 0, none⟩ = some (.bool true) := (BlkIs.cell hX5 0); have l5 := BlkIs.lt hX5; have f5 := BlkIs.frozen hX5 0)
              refine ⟨(keep_call (KeepBook.refl _) hb5).setCell _ _, ?_, BlkIs.other (BlkIs.call HC4.out hb5) (p := ⟨w.heap.size, 0, none⟩) (by have := HL.out; simp; omega) _, Below.setCell (p := ⟨w.heap.size, 0, none⟩) (below_call HB4.out HB4.out.size hb5) (Nat.le_refl _) _⟩
              rw [List.all_append, ← Bool.and_assoc, ← HU.out]
              have h := BlkIs.set hX5 0 (.bool false)
              have hd := D1.out
              simpa [spOK, hd] using h

def grid_Right.f (l0 : List (List (S34))) (l1 : List Int) : Option (Bool) := some (gridRightB l0 l1)
theorem grid_Right.calls (A0 : Option Addr) (c0 : Nat) (l0 : List (List (S34))) (A1 : Option Addr) (c1 : Nat) (l1 : List Int) (r : Bool) (w : World) (hr0 : Kd.C (Kd.slice 34 k34) w A0 l0.length l0) (hc0 : l0.length ≤ c0) (hr1 : Kd.C (Kd.int .i64) w A1 l1.length l1) (hc1 : l1.length ≤ c1) (h : grid_Right.f l0 l1 = some r) :
    Calls Try.prog 19 #[.slice A0 l0.length c0, .slice A1 l1.length c1] w fun e w' => e = .returned (.bool r) ∧ Below w.heap.size w w' := by
  obtain rfl := Option.some.inj h
  exact gright_any l0 l1 A0 A1 c0 c1 w hr0 hc0 hr1 hc1
end Go.Proofs.Ytfoocmmjefdojaa.K
