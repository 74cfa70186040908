/- Layer 7: Slots, its contract. -/
import Derived.Test.YtfoocmmjefdojaaGs4
namespace Go.Proofs.Ytfoocmmjefdojaa.K
open Go.RowKit Go.Proofs.YtfoocmmjefdojaaW.PrintWords Go.Proofs.YtfoocmmjefdojaaW.PrintLast Go.Proofs.YtfoocmmjefdojaaW.PrintMore
set_option linter.unusedVariables false
set_option linter.unusedSimpArgs false
theorem grid_Slots.calls (A0 : Option Addr) (c0 : Nat) (l0 : List (S40)) (a1 : Int) (a2 : Int) (r1 : List (List Int)) (r2 : Int) (w : World) (hr0 : Kd.C k40 w A0 l0.length l0) (hc0 : l0.length ≤ c0) (h : grid_Slots.f l0 a1 a2 = some (r1, r2)) :
    Calls Try.prog 22 #[.slice A0 l0.length c0, .int .i64 a1, .int .i64 a2] w fun e w' => ∃ v0_ : Value, e = .returned (.tuple #[v0_, .int .i64 r2]) ∧ Kd.S (Kd.slice 3 (Kd.int .i64)) 23 w' w.heap.size (fun _ => True) v0_ r1 ∧ Below w.heap.size w w' := by
  unfold grid_Slots.f at h
  by_cases hs : sizesB a1 a2 = true
  · rw [if_pos hs] at h
    obtain ⟨rfl, rfl⟩ := Prod.mk.inj (Option.some.inj h)
    unfold sizesB at hs
    simp only [Bool.and_eq_true, decide_eq_true_eq] at hs
    obtain ⟨R, rfl⟩ := Int.eq_ofNat_of_zero_le hs.1.1.1
    obtain ⟨C, rfl⟩ := Int.eq_ofNat_of_zero_le hs.1.2.1
    exact slots_yes l0 A0 c0 R C w hr0 hc0 (by omega) (by omega) hs.2 _ (by rw [Int.toNat_natCast, Int.toNat_natCast])
  · rw [if_neg hs] at h
    obtain ⟨rfl, rfl⟩ := Prod.mk.inj (Option.some.inj h)
    refine (slots_bad l0 A0 c0 a1 a2 w (by simpa using hs)).mono ?_
    rintro e w' ⟨rfl, hb⟩
    exact ⟨_, rfl, Kd.S_nil _ _ _ _ _, hb⟩
/-- what Slots tells has its sizes -/
theorem slots_dim (R C : Nat) : ∀ (ps : List Pl) (i : Nat) (m m' : List (List Int)), DimM R C m → slotsP R C i ps m = some m' → DimM R C m'
  | [], i, m, m', h, e => by unfold slotsP at e; cases e; exact h
  | p :: ps, i, m, m', h, e => by
    unfold slotsP at e
    split at e
    · obtain ⟨m1, h1, h2⟩ := Option.bind_eq_some_iff.1 e
      exact slots_dim R C ps (i + 1) m1 m' (fillP_dim _ _ _ _ _ _ h h1) h2
    · cases e
theorem sizesB_nat {a1 a2 : Int} (h : sizesB a1 a2 = true) : ∃ R C : Nat, a1 = R ∧ a2 = C ∧ R ≤ 65536 ∧ C ≤ 10000 ∧ R * C ≤ 1000000 := by
  unfold sizesB at h
  simp only [Bool.and_eq_true, decide_eq_true_eq] at h
  obtain ⟨R, rfl⟩ := Int.eq_ofNat_of_zero_le (show 0 ≤ a1 by omega)
  obtain ⟨C, rfl⟩ := Int.eq_ofNat_of_zero_le (show 0 ≤ a2 by omega)
  exact ⟨R, C, rfl, rfl, by omega, by omega, by have h2 : ((R * C : Nat) : Int) ≤ 1000000 := (by rw [Int.natCast_mul]; exact h.2); omega⟩
theorem repl_dim (R C : Nat) : DimM R C (List.replicate R (List.replicate C (-1))) := ⟨List.length_replicate, fun x hx => by rw [(List.mem_replicate.1 hx).2, List.length_replicate]⟩
/-- Slots' answer: either an error and no rows, or rows of the sizes -/
theorem slots_cases (l0 : List Pl) (a1 a2 : Int) : grid_Slots.f l0 a1 a2 = some ([], 70) ∨ ∃ (R C : Nat) (m : List (List Int)), a1 = R ∧ a2 = C ∧ R ≤ 65536 ∧ C ≤ 10000 ∧ R * C ≤ 1000000 ∧ DimM R C m ∧ slotsP R C 0 l0 (List.replicate R (List.replicate C (-1))) = some m ∧ grid_Slots.f l0 a1 a2 = some (m, 0) := by
  unfold grid_Slots.f
  by_cases hs : sizesB a1 a2 = true
  · obtain ⟨R, C, rfl, rfl, h1, h2, h3⟩ := sizesB_nat hs
    rw [if_pos hs, Int.toNat_natCast, Int.toNat_natCast]
    cases ho : slotsP R C 0 l0 (List.replicate R (List.replicate C (-1))) with
    | none => exact .inl rfl
    | some m => exact .inr ⟨R, C, m, rfl, rfl, h1, h2, h3, slots_dim R C l0 0 _ m (repl_dim R C) ho, ho, rfl⟩
  · rw [if_neg hs]; exact .inl rfl
/-! ### which are empty -/
abbrev Sl := S45
def emptyR (r : Nat) : Nat → List Int → List Sl
  | _, [] => []
  | c, v :: vs => if v < 0 then (⟨r, c⟩ : Sl) :: emptyR r (c + 1) vs else emptyR r (c + 1) vs
def emptyM : Nat → List (List Int) → List Sl
  | _, [] => []
  | r, row :: rows => emptyR r 0 row ++ emptyM (r + 1) rows
theorem emptyR_len (r : Nat) : ∀ (row : List Int) (c : Nat), (emptyR r c row).length ≤ row.length
  | [], c => Nat.le_refl _
  | v :: vs, c => by
    unfold emptyR
    have := emptyR_len r vs (c + 1)
    split
    · simp only [List.length_cons]; omega
    · simp only [List.length_cons]; omega
theorem emptyM_len (C : Nat) : ∀ (m : List (List Int)) (r : Nat), (∀ x ∈ m, x.length = C) → (emptyM r m).length ≤ m.length * C
  | [], r, h => by simp [emptyM]
  | row :: rows, r, h => by
    unfold emptyM
    rw [List.length_append, List.length_cons, Nat.add_mul]
    have h1 := emptyR_len r row 0
    have h2 := emptyM_len C rows (r + 1) (fun x hx => h x (List.mem_cons_of_mem _ hx))
    have h3 := h row (List.mem_cons_self ..)
    omega
theorem emptyR_snoc (r : Nat) (v : Int) : ∀ (xs : List Int) (c : Nat), emptyR r c (xs ++ [v]) = emptyR r c xs ++ if v < 0 then [(⟨r, (c + xs.length : Nat)⟩ : Sl)] else []
  | [], c => by unfold emptyR; unfold emptyR; simp
  | x :: xs, c => by
    rw [List.cons_append]
    unfold emptyR
    rw [emptyR_snoc r v xs (c + 1), List.length_cons, show c + 1 + xs.length = c + (xs.length + 1) by omega]
    split <;> simp
theorem emptyM_snoc (row : List Int) : ∀ (m : List (List Int)) (r : Nat), emptyM r (m ++ [row]) = emptyM r m ++ emptyR (r + m.length) 0 row
  | [], r => by unfold emptyM; unfold emptyM; simp
  | x :: m, r => by
    rw [List.cons_append]
    unfold emptyM
    rw [emptyM_snoc row m (r + 1), List.length_cons, show r + 1 + m.length = r + (m.length + 1) by omega, List.append_assoc]
def grid_Empty.f (l0 : List (S40)) (a1 : Int) (a2 : Int) : Option ((List (S45)) × Int) := (grid_Slots.f l0 a1 a2).bind fun t => if t.2 = 0 then some (emptyM 0 t.1, 0) else some ([], t.2)

set_option maxRecDepth 100000 in
set_option maxHeartbeats 4000000 in
theorem empty_no (A0 : Option Addr) (c0 : Nat) (l0 : List Pl) (a1 a2 : Int) (e : Int) (he : e ≠ 0) (w : World) (hr0 : Kd.C k40 w A0 l0.length l0) (hc0 : l0.length ≤ c0) (h : ∃ m, grid_Slots.f l0 a1 a2 = some (m, e)) :
    Calls Try.prog 24 #[.slice A0 l0.length c0, .int .i64 a1, .int .i64 a2] w fun e' w' => e' = .returned (.tuple #[.slice none 0 0, .int .i64 e]) ∧ Below w.heap.size w w' := by
  obtain ⟨m, h⟩ := h
  have HS := Lib.hid (grid_Slots.calls A0 c0 l0 a1 a2 m e w hr0 hc0 h)
  have hd : (e == 0) = false := by simpa using he
  clear h hr0 hc0
  go_enter Try.func24, Try.ntmps24
  go_wp2_with (go_at_call 22; refine HS.out.mono ?_; rintro e1 w1 ⟨v1, rfl, ho, hb⟩)
  exact bodyPost_ret (results_tmp2 Try.results24 _ _ _) rfl ⟨rfl, hb⟩
set_option maxRecDepth 100000 in
set_option maxHeartbeats 4000000 in
theorem empty_yes (A0 : Option Addr) (c0 : Nat) (l0 : List Pl) (a1 a2 : Int) (m : List (List Int)) (R C : Nat) (hR : R ≤ 100000) (hC : C ≤ 100000) (hRC : R * C ≤ 1000000) (hdim : DimM R C m) (w : World) (hr0 : Kd.C k40 w A0 l0.length l0) (hc0 : l0.length ≤ c0) (h : grid_Slots.f l0 a1 a2 = some (m, 0)) :
    Calls Try.prog 24 #[.slice A0 l0.length c0, .int .i64 a1, .int .i64 a2] w fun e' w' => ∃ v0_ : Value, e' = .returned (.tuple #[v0_, .int .i64 0]) ∧ Kd.R k45 45 w' w.heap.size (fun _ => True) v0_ (emptyM 0 m) ∧ Below w.heap.size w w' := by
  have HS := Lib.hid (grid_Slots.calls A0 c0 l0 a1 a2 m 0 w hr0 hc0 h)
  have HD := Lib.hid hdim
  have HB := Lib.hid (And.intro hR (And.intro hC hRC))
  clear h hr0 hc0 hdim hR hC hRC
  go_enter Try.func24, Try.ntmps24
  go_wp2_with (go_at_call 22; refine HS.out.mono ?_; rintro e1 w1 ⟨v1, rfl, ho, hb⟩; obtain ⟨A1, c1, rfl⟩ := Kd.S_slice ho; have HO := Lib.hid (Kd.S_reads' ho).2.2; have HBW := Lib.hid hb; clear ho hb HS)
  have hml : m.length ≤ 100000 := by have := HD.out.1; have := HB.out.1; omega
  go_loopw [10, 27] (fun v i wr => ∃ r : Nat, r ≤ m.length ∧ i = .int .i64 r ∧ Aside0 (Kd.R k45 45 wr w1.heap.size (fun _ => True) v (emptyM 0 (m.take r))) ∧ Aside0 (Below w1.heap.size w1 wr)) (fun _ i _ => m.length - (intOf i).toNat)
  case atStart => exact ⟨0, Nat.zero_le _, rfl, ⟨by rw [List.take_zero]; exact Kd.R_nil _ _ _ _ _⟩, ⟨Below.refl _ _⟩⟩
  case round =>
    obtain ⟨r, hr, rfl, HR, HW⟩ := hrel
    by_cases hlt : r < m.length
    · have hltz : (r : Int) < (m.length : Int) := by omega
      obtain ⟨row, hrow, hmem⟩ : ∃ row, m[r]? = some row ∧ row ∈ m := ⟨m[r], List.getElem?_eq_getElem hlt, List.getElem_mem hlt⟩
      have hrl : row.length = C := HD.out.2 row hmem
      obtain ⟨ad, Ar, cr, hA, hx, hle, hCr⟩ := at_L4 HO.out (r : Int) (by omega) hltz
      rw [show rd_L4 m (r : Int) = row by unfold rd_L4; rw [Int.toNat_natCast, List.getD_eq_getElem?_getD, hrow]; rfl] at hx hle hCr
      rw [Int.toNat_natCast] at hx
      have hx0 : wr.cell? (ad.add r) = some (.slice Ar row.length cr) := (HW.out.cell (World.block_lt_of_cell? w1 _ hx)).trans hx
      subst hA
      have HCr := Lib.hid hCr
      have HRL := Lib.hid hrl
      have HROW := Lib.hid hrow
      clear hx hle hCr hrl hmem hrow
      go_wp2
      clear hx0
      go_loopw [10, 34] (fun v i wr => ∃ c : Nat, c ≤ row.length ∧ i = .int .i64 c ∧ Aside0 (Kd.R k45 45 wr w1.heap.size (fun _ => True) v (emptyM 0 (m.take r) ++ emptyR r 0 (row.take c))) ∧ Aside0 (Below w1.heap.size w1 wr)) (fun _ i _ => row.length - (intOf i).toNat)
      case atStart => exact ⟨0, Nat.zero_le _, rfl, ⟨by rw [List.take_zero]; unfold emptyR; rw [List.append_nil]; exact HR.out⟩, HW⟩
      case round =>
        obtain ⟨c, hc, rfl, HR2, HW2⟩ := hrel
        clear HR HW
        by_cases hlt2 : c < row.length
        · have hltz2 : (c : Int) < (row.length : Int) := by omega
          obtain ⟨ad2, hA2, hy⟩ := Kd.at_int HCr.out (c : Int) (by omega) hltz2
          rw [Int.toNat_natCast] at hy
          obtain ⟨v, hv⟩ : ∃ v, row[c]? = some v := ⟨_, List.getElem?_eq_getElem hlt2⟩
          rw [show rd row (c : Int) = v by unfold rd; rw [Int.toNat_natCast, List.getD_eq_getElem?_getD, hv]; rfl] at hy
          have hy0 : wr.cell? (ad2.add c) = some (.int .i64 v) := (HW2.out.cell (World.block_lt_of_cell? w1 _ hy)).trans hy
          subst hA2
          have HSN : Hid (emptyR r 0 (row.take (c + 1)) = emptyR r 0 (row.take c) ++ if v < 0 then [(⟨r, c⟩ : Sl)] else []) := Lib.hid (by
            rw [List.take_add_one, hv]
            show emptyR r 0 (row.take c ++ [v]) = _
            rw [emptyR_snoc, List.length_take, Nat.min_eq_left (by omega), Nat.zero_add])
          have HLEN : Hid ((emptyM 0 (m.take r) ++ emptyR r 0 (row.take c)).length ≤ 2000000) := Lib.hid (by
            rw [List.length_append]
            have h1 := emptyM_len C (m.take r) 0 (fun x hx => HD.out.2 x (List.mem_of_mem_take hx))
            have h2 := emptyR_len r (row.take c) 0
            rw [List.length_take] at h1 h2
            have h3 : min r m.length * C ≤ R * C := Nat.mul_le_mul_right _ (by have := HD.out.1; omega)
            have := HB.out
            have := HRL.out
            omega)
          clear hy hv
          have hrb : r ≤ 100000 := by omega
          obtain ⟨acc, hacc⟩ : ∃ acc, acc = emptyM 0 (m.take r) ++ emptyR r 0 (row.take c) := ⟨_, rfl⟩
          rw [← hacc] at HR2 HLEN
          have HACC := Lib.hid hacc
          clear hacc
          have hcb : c ≤ 100000 := by have := HRL.out; have := HB.out.2.1; omega
          by_cases hneg : v < 0
          · have HSN2 := Lib.hid (show emptyM 0 (m.take r) ++ emptyR r 0 (row.take (c + 1)) = acc ++ [(⟨r, c⟩ : Sl)] by rw [HSN.out, if_pos hneg, ← List.append_assoc, HACC.out])
            go_wp2_with (((with_reducible refine gate_builtin (b := .append) (xs := #[.tmp 41, .tmp 45]) rfl ?_); at_builtin; refine Kd.R_append k45 (w0 := w1) w1.heap.size rfl (.tmp 41) (.tmp 45) 41 45 (.agg #[(.int .i64 0), (.int .i64 0)]) 16 rfl Try.underlying41 info45 rfl (by decide) (by omega) u10 acc (⟨r, c⟩ : Sl) [.int .i64 r, .int .i64 c] (fun _ => True) (fun _ => False) rfl rfl (k45_mkM _ _ _ (⟨r, c⟩ : Sl)) (fun _ hk => hk.elim) (fun _ _ => trivial) HR2.out HW2.out HW2.out.size (by have := HLEN.out; omega) ?_; intro v5 w5 ho5 hb5 hg5 _; have HR5 := Aside0.mk ho5; have HW5 := Aside0.mk hb5; clear HR2 HW2 ho5 hb5 hg5))
            go_roundw
            case rel => exact ⟨c + 1, by omega, by go_num, ⟨by rw [HSN2.out]; exact HR5.out⟩, HW5⟩
            case measure => simp [intOf]; omega
          · have HSN2 := Lib.hid (show emptyM 0 (m.take r) ++ emptyR r 0 (row.take (c + 1)) = acc by rw [HSN.out, if_neg hneg, List.append_nil, HACC.out])
            go_wp2
            go_roundw
            case rel => exact ⟨c + 1, by omega, by go_num, ⟨by rw [HSN2.out]; exact HR2.out⟩, HW2⟩
            case measure => simp [intOf]; omega
        · have hcl : c = row.length := by omega
          subst hcl
          have HR3 : Aside0 (Kd.R k45 45 wr w1.heap.size (fun _ => True) u10 (emptyM 0 (m.take (r + 1)))) := ⟨by
            have h := HR2.out
            rw [List.take_length] at h
            rw [List.take_add_one, HROW.out]
            show Kd.R _ _ _ _ _ _ (emptyM 0 (m.take r ++ [row]))
            rw [emptyM_snoc, List.length_take, Nat.min_eq_left (by omega), Nat.zero_add]
            exact h⟩
          clear HR2
          go_wp2
          go_roundw
          case rel => exact ⟨r + 1, by omega, by go_num, HR3, HW2⟩
          case measure => simp [intOf]; omega
    · have hrl : r = m.length := by omega
      subst hrl
      rw [List.take_length] at HR
      go_wp2
      exact bodyPost_ret (results_tmp2 Try.results24 _ _ _) rfl ⟨_, rfl, Kd.R_lower HR.out HBW.out.size, below_then HBW.out HBW.out.size HW.out⟩
theorem grid_Empty.calls (A0 : Option Addr) (c0 : Nat) (l0 : List (S40)) (a1 : Int) (a2 : Int) (r1 : List (S45)) (r2 : Int) (w : World) (hr0 : Kd.C k40 w A0 l0.length l0) (hc0 : l0.length ≤ c0) (h : grid_Empty.f l0 a1 a2 = some (r1, r2)) :
    Calls Try.prog 24 #[.slice A0 l0.length c0, .int .i64 a1, .int .i64 a2] w fun e w' => ∃ v0_ : Value, e = .returned (.tuple #[v0_, .int .i64 r2]) ∧ Kd.R k45 45 w' w.heap.size (fun _ => True) v0_ r1 ∧ Below w.heap.size w w' := by
  unfold grid_Empty.f at h
  rcases slots_cases l0 a1 a2 with hs | ⟨R, C, m, rfl, rfl, h1, h2, h3, hd, -, hs⟩
  · rw [hs] at h
    obtain ⟨rfl, rfl⟩ := Prod.mk.inj (Option.some.inj h)
    refine (empty_no A0 c0 l0 a1 a2 70 (by decide) w hr0 hc0 ⟨[], hs⟩).mono ?_
    rintro e w' ⟨rfl, hb⟩
    exact ⟨_, rfl, Kd.R_nil _ _ _ _ _, hb⟩
  · rw [hs] at h
    obtain ⟨rfl, rfl⟩ := Prod.mk.inj (Option.some.inj h)
    exact empty_yes A0 c0 l0 R C m R C (by omega) (by omega) h3 hd w hr0 hc0 hs
end Go.Proofs.Ytfoocmmjefdojaa.K
