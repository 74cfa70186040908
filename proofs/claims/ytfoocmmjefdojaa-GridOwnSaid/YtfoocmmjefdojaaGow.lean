/- Layer 7: the walk of GridOwn. -/
import Derived.Test.YtfoocmmjefdojaaSlots
import Derived.Test.YtfoocmmjefdojaaK5
import Derived.Test.YtfoocmmjefdojaaK4
import Derived.Deep.QuietTactic
import Derived.BigQuiet
namespace Go.Proofs.Ytfoocmmjefdojaa.K
open Go.RowKit Go.Proofs.YtfoocmmjefdojaaW.PrintWords Go.Proofs.YtfoocmmjefdojaaW.PrintLast Go.Proofs.YtfoocmmjefdojaaW.PrintMore
set_option linter.unusedVariables false
set_option linter.unusedSimpArgs false

def offs (c : List (List Sp)) (i : Nat) : Nat := (cellsFrom 0 (c.take i)).length
theorem offs_next {c : List (List Sp)} {i : Nat} {row : List Sp} (h : c[i]? = some row) : offs c (i + 1) = offs c i + row.length := by
  unfold offs
  rw [cells_take c 0 i row h, List.length_append, List.length_map]
/-- what the law asks of each cell's place -/
structure OwnF (ps : List Pl) (ends : List Int) (i j k : Nat) (x : Sp) (p : Pl) (e : Int) (q : Pl) : Prop where
  at_ : ps[k]? = some p
  node : p.f0 = x.f0
  row : p.f1 = i
  high : 1 ≤ p.f3 ∧ i + p.f3 ≤ e ∧ e ≤ 65536
  wide : 1 ≤ p.f4 ∧ p.f4 ≤ x.f1
  end_ : ends[i]? = some e
  prev : 0 < j → 0 < k ∧ ps[k - 1]? = some q ∧ (0 ≤ q.f2 ∧ q.f2 ≤ 100000) ∧ (0 ≤ q.f4 ∧ q.f4 ≤ 100000) ∧ q.f2 + q.f4 ≤ p.f2

section
variable (l0 c : List (List Sp)) (l1 : List Int) (tt : Nat) (htt : (if 21 < (l1.length : Int) then (21 : Int) else (l1.length : Int)) = (tt : Int)) (htl : tt ≤ l1.length) (A0 A1 : Option Addr) (c0 c1 : Nat) (w : World) (hr0 : Kd.C (Kd.slice 34 k34) w A0 l0.length l0) (hc0 : l0.length ≤ c0) (hr1 : Kd.C (Kd.int .i64) w A1 l1.length l1) (hc1 : l1.length ≤ c1)
  (ks kc : Nat) (hs : purflinglaw07_shown.f ks = some true) (hcut : purflinglaw07_Cut.f kc l0 = some c)
include hr0 hc0 hr1 hc1 hs hcut htt htl
set_option maxRecDepth 100000 in
set_option maxHeartbeats 4000000 in
theorem ownlaw_no (e : Int) (he : e ≠ 0) (hl : grid_Lay.f c (l1.take tt) = some ([], 0, e)) :
    Calls Try.prog 5 #[.slice A0 l0.length c0, .slice A1 l1.length c1] w fun e w' => e = .returned (.bool true) ∧ Below w.heap.size w w' := by
  have H1 := Lib.hid fun W => purflinglaw07_shown.calls ks true W hs
  have H2 := Lib.hid fun (W : World) (hB : Below w.heap.size w W) => purflinglaw07_Cut.calls kc A0 c0 l0 c W (Kd.C_below hr0 hB) hc0 hcut
  have hlen : (l1.take tt).length = tt := by rw [List.length_take]; omega
  obtain ⟨i014, hi014, _, hsz14, _⟩ := info_parts info3
  obtain ⟨hcut14, hA14, hC14⟩ := print_take_of (P := Try.prog) (Value.int .i64) 0 23 3 .i64 Try.underlying23 hi014 hsz14 A1 c1 l1 (tt : Int) (by omega) (by omega) hc1
  rw [Int.toNat_natCast] at hcut14 hA14 hC14
  have hE : Kd.C (Kd.int .i64) w A1 (l1.take tt).length (l1.take tt) := Kd.C_of_reads (h1 := fun _ => rfl) (hA14 _ (Kd.reads_of_C hr1))
  have H3 := Lib.hid fun (W : World) (hB : Below w.heap.size w W) (B : Option Addr) (d : Nat) (g0 : Kd.C (Kd.slice 34 k34) W B c.length c) (e0 : c.length ≤ d) => grid_Lay.calls B d c A1 c1 (l1.take tt) [] 0 e W g0 e0 (Kd.C_below hE hB) hC14 hl
  rw [hlen] at H3 hcut14
  have hd : (e == 0) = false := by simpa using he
  clear hr0 hc0 hr1 hc1 hs hcut hl hsz14 hA14 hC14 hE hi014 hlen htl
  go_enter Try.func5, Try.ntmps5
  go_wp2_with (first
    | (go_at_call 15; refine (H1.out _).mono ?_; rintro e1 w1 ⟨rfl, hb1⟩; have HB1 := Lib.hid hb1; clear hb1)
    | (go_at_call 16; refine (H2.out _ HB1.out).mono ?_; rintro e2 w2 ⟨v2, rfl, ho2, hb2⟩; obtain ⟨A2, d2, rfl⟩ := Kd.S_slice ho2; have HB2 := Lib.hid (below_then HB1.out HB1.out.size hb2); have HR2 := Lib.hid (Kd.S_reads' ho2).2; clear ho2 hb2)
    | (go_at_call 17; refine (H3.out _ HB2.out _ _ HR2.out.2 HR2.out.1).mono ?_; rintro e3 w3 ⟨v3, rfl, ho3, hb3⟩; obtain ⟨A3, d3, rfl⟩ := Kd.R_slice ho3; have HB3 := Lib.hid (below_then HB2.out HB2.out.size hb3); clear ho3 hb3))
  go_ret
  exact ⟨by simp, HB3.out⟩
set_option maxRecDepth 100000 in
set_option maxHeartbeats 8000000 in
theorem ownlaw_yes (ps : List Pl) (most : Int) (m : List (List Int)) (hl : grid_Lay.f c (l1.take tt) = some (ps, most, 0)) (hsl : grid_Slots.f ps (c.length : Int) most = some (m, 0)) (hpl : ps.length = offs c c.length) (hps : ps.length ≤ 1000000) (hcl : c.length ≤ 100) (hrl : ∀ row ∈ c, row.length ≤ 100)
    (hfact : ∀ (i j : Nat) (row : List Sp) (x : Sp), c[i]? = some row → row[j]? = some x → ∃ p e q, OwnF ps (l1.take tt) i j (offs c i + j) x p e q) :
    Calls Try.prog 5 #[.slice A0 l0.length c0, .slice A1 l1.length c1] w fun e w' => e = .returned (.bool true) ∧ Below w.heap.size w w' := by
  have H1 := Lib.hid fun W => purflinglaw07_shown.calls ks true W hs
  have H2 := Lib.hid fun (W : World) (hB : Below w.heap.size w W) => purflinglaw07_Cut.calls kc A0 c0 l0 c W (Kd.C_below hr0 hB) hc0 hcut
  have hlen : (l1.take tt).length = tt := by rw [List.length_take]; omega
  obtain ⟨i014, hi014, _, hsz14, _⟩ := info_parts info3
  obtain ⟨hcut14, hA14, hC14⟩ := print_take_of (P := Try.prog) (Value.int .i64) 0 23 3 .i64 Try.underlying23 hi014 hsz14 A1 c1 l1 (tt : Int) (by omega) (by omega) hc1
  rw [Int.toNat_natCast] at hcut14 hA14 hC14
  have hE : Kd.C (Kd.int .i64) w A1 (l1.take tt).length (l1.take tt) := Kd.C_of_reads (h1 := fun _ => rfl) (hA14 _ (Kd.reads_of_C hr1))
  have H3 := Lib.hid fun (W : World) (hB : Below w.heap.size w W) (B : Option Addr) (d : Nat) (g0 : Kd.C (Kd.slice 34 k34) W B c.length c) (e0 : c.length ≤ d) => grid_Lay.calls B d c A1 c1 (l1.take tt) ps most 0 W g0 e0 (Kd.C_below hE hB) hC14 hl
  rw [hlen] at H3 hcut14
  have H4 := Lib.hid fun (W : World) (B : Option Addr) (d : Nat) (g0 : Kd.C k40 W B ps.length ps) (e0 : ps.length ≤ d) => grid_Slots.calls B d ps (c.length : Int) most m 0 W g0 e0 hsl
  have HE := Lib.hid hE
  have HF := Lib.hid hfact
  have HPL := Lib.hid hpl
  have HCL := Lib.hid hcl
  have HRL := Lib.hid hrl
  have HPS := Lib.hid hps
  have HTT := Lib.hid hlen
  clear hr0 hc0 hr1 hc1 hs hcut hl hsl hsz14 hA14 hC14 hE hi014 hlen htl hfact hpl hcl hrl hps
  go_enter Try.func5, Try.ntmps5
  go_upto_region 8 with (first
    | (go_at_call 15; refine (H1.out _).mono ?_; rintro e1 w1 ⟨rfl, hb1⟩; have HB1 := Lib.hid hb1; clear hb1)
    | (go_at_call 16; refine (H2.out _ HB1.out).mono ?_; rintro e2 w2 ⟨v2, rfl, ho2, hb2⟩; obtain ⟨A2, d2, rfl⟩ := Kd.S_slice ho2; have HB2 := Lib.hid (below_then HB1.out HB1.out.size hb2); have HR2 := Lib.hid (Kd.S_reads' ho2).2; clear ho2 hb2)
    | (go_at_call 17; refine (H3.out _ HB2.out _ _ HR2.out.2 HR2.out.1).mono ?_; rintro e3 w3 ⟨v3, rfl, ho3, hb3⟩; obtain ⟨A3, d3, rfl⟩ := Kd.R_slice ho3; have HB3 := Lib.hid (below_then HB2.out HB2.out.size hb3); have HR3 := Lib.hid (Kd.R_reads' ho3).2; have HC3 := Lib.hid (Kd.C_below HR2.out.2 hb3); clear ho3 hb3)
    | (go_at_call 22; refine (H4.out _ _ _ HR3.out.2 HR3.out.1).mono ?_; rintro e4 w4 ⟨v4, rfl, ho4, hb4⟩; obtain ⟨A4, d4, rfl⟩ := Kd.S_slice ho4; have HB4 := Lib.hid (below_then HB3.out HB3.out.size hb4); have HRw := Lib.hid (Kd.C_below HC3.out hb4); have HPs := Lib.hid (Kd.C_below HR3.out.2 hb4); have HEn := Lib.hid (Kd.C_below HE.out HB4.out); clear ho4 hb4))
  clear H1 H2 H3 H4 HE HB1 HB2 HB3 HR2 HR3 HC3 hcut14
  go_wp2
  go_loopw [11, 12] (fun kv iv wr => ∃ i : Nat, i ≤ c.length ∧ iv = .int .i64 i ∧ kv = .int .i64 (offs c i : Nat) ∧ Aside0 (Below w4.heap.size w4 wr)) (fun _ i _ => c.length - (intOf i).toNat)
  case atStart => exact ⟨0, Nat.zero_le _, rfl, rfl, ⟨Below.refl _ _⟩⟩
  case round =>
    obtain ⟨i, hi, rfl, rfl, HW⟩ := hrel
    by_cases hlt : i < c.length
    · have hltz : (i : Int) < (c.length : Int) := by omega
      obtain ⟨row, hrow⟩ : ∃ row, c[i]? = some row := ⟨_, List.getElem?_eq_getElem hlt⟩
      obtain ⟨H, hH⟩ := rowsAt_of HRw.out
      obtain ⟨ad, hA, hx, hle, hCr⟩ := hH i row hrow
      obtain ⟨Ar, hAr⟩ : ∃ A, A = (H i).1 := ⟨_, rfl⟩
      obtain ⟨cr, hcr⟩ : ∃ x, x = (H i).2 := ⟨_, rfl⟩
      rw [← hAr] at hx hCr
      rw [← hcr] at hx
      subst hA
      have HX := Lib.hid hx
      have HCr := Lib.hid hCr
      have HROW := Lib.hid hrow
      have hrb : row.length ≤ 100 := HRL.out row (List.mem_of_getElem? hrow)
      have hib : i ≤ 100 := by have := HCL.out; omega
      clear hH hx hle hCr hAr hcr hrow
      generalize hO : offs c i = O
      have HO := Lib.hid hO
      clear hO
      go_wp2
      go_loopw [11, 13] (fun kv jv wr => ∃ j : Nat, j ≤ row.length ∧ jv = .int .i64 j ∧ kv = .int .i64 (O + j : Nat) ∧ Aside0 (Below w4.heap.size w4 wr)) (fun _ j _ => row.length - (intOf j).toNat)
      case atStart => exact ⟨0, Nat.zero_le _, rfl, rfl, HW⟩
      case round =>
        obtain ⟨j, hj, rfl, rfl, HW2⟩ := hrel
        clear HW
        have hx0 : wr.cell? (ad.add i) = some (.slice Ar row.length cr) := (HW2.out.cell (World.block_lt_of_cell? w4 _ HX.out)).trans HX.out
        have hxb : (ad.add i).block < wr.heap.size := World.block_lt_of_cell? wr _ hx0
        by_cases hlt2 : j < row.length
        · have hltz2 : (j : Int) < (row.length : Int) := by omega
          obtain ⟨x, hx⟩ : ∃ x, row[j]? = some x := ⟨_, List.getElem?_eq_getElem hlt2⟩
          obtain ⟨p, e, q, hF⟩ := HF.out i j row x HROW.out hx
          rw [HO.out] at hF
          generalize hK : O + j = K at hF ⊢
          have HK := Lib.hid hK
          obtain ⟨hat, hnode, hrow', hhigh, hwide, hend, hprev⟩ := hF
          obtain ⟨p0, p1, p2, p3, p4⟩ := p
          obtain ⟨m0, m1, m2⟩ := x
          obtain ⟨q0, q1, q2, q3, q4⟩ := q
          dsimp only at hnode hrow' hhigh hwide hprev
          replace hnode := hnode.symm
          subst hnode hrow'
          have hKl : K < ps.length := (List.getElem?_eq_some_iff.1 hat).1
          have hKz : (K : Int) < (ps.length : Int) := by omega
          have hKb : K ≤ 1000000 := by have := HPS.out; omega
          have hil : i < tt := by have := (List.getElem?_eq_some_iff.1 hend).1; have := HTT.out; omega
          have hilz : (i : Int) < (tt : Int) := by omega
          obtain ⟨ar, hAr, hcells⟩ := HCr.out.2.2 (by omega)
          obtain ⟨cs, hcl, hKK, hcell⟩ := hcells j _ hx
          obtain rfl := k34_open hKK
          have tr : ∀ {a : Addr} {v : Value}, w4.cell? a = some v → wr.cell? a = some v := fun {a v} h => (HW2.out.cell (World.block_lt_of_cell? w4 _ h)).trans h
          have s0 : wr.cell? (ar.add (j * 3)) = some (.int .i64 m0) := tr (hcell 0 _ rfl)
          have s1 : wr.cell? ⟨(ar.add (j * 3)).block, (ar.add (j * 3)).off + 1, none⟩ = some (.int .i64 m1) := by rw [← add_field _ _ 1 (by omega)]; exact tr (hcell 1 _ rfl)
          have sb : (ar.add (j * 3)).block < wr.heap.size := World.block_lt_of_cell? wr _ s0
          subst hAr
          obtain ⟨ap, hAp, hcells2⟩ := HPs.out.2.2 (by omega)
          obtain ⟨cs2, hcl2, hKK2, hcell2⟩ := hcells2 K _ hat
          obtain rfl := k40_open hKK2
          have y0 : wr.cell? (ap.add (K * 5)) = some (.int .i64 m0) := tr (hcell2 0 _ rfl)
          have y1 : wr.cell? ⟨(ap.add (K * 5)).block, (ap.add (K * 5)).off + 1, none⟩ = some (.int .i64 i) := by rw [← add_field _ _ 1 (by omega)]; exact tr (hcell2 1 _ rfl)
          have y2 : wr.cell? ⟨(ap.add (K * 5)).block, (ap.add (K * 5)).off + 2, none⟩ = some (.int .i64 p2) := by rw [← add_field _ _ 2 (by omega)]; exact tr (hcell2 2 _ rfl)
          have y3 : wr.cell? ⟨(ap.add (K * 5)).block, (ap.add (K * 5)).off + 3, none⟩ = some (.int .i64 p3) := by rw [← add_field _ _ 3 (by omega)]; exact tr (hcell2 3 _ rfl)
          have y4 : wr.cell? ⟨(ap.add (K * 5)).block, (ap.add (K * 5)).off + 4, none⟩ = some (.int .i64 p4) := by rw [← add_field _ _ 4 (by omega)]; exact tr (hcell2 4 _ rfl)
          have yb : (ap.add (K * 5)).block < wr.heap.size := World.block_lt_of_cell? wr _ y0
          obtain ⟨ae, hAe, hcells3⟩ := HEn.out.2.2 (by rw [HTT.out]; omega)
          obtain ⟨cs3, hcl3, hKK3, hcell3⟩ := hcells3 i e hend
          obtain rfl : cs3 = [.int .i64 e] := hKK3
          have e0 : wr.cell? (ae.add i) = some (.int .i64 e) := by have := tr (hcell3 0 _ rfl); rwa [show ((Kd.int .i64).sz) = 1 from rfl, Nat.mul_one] at this
          have eb : (ae.add i).block < wr.heap.size := World.block_lt_of_cell? wr _ e0
          have hd3 : decide (p3 < 1) = false := decide_eq_false (by omega)
          have hd4 : decide (p4 < 1) = false := decide_eq_false (by omega)
          have hd5 : decide (m1 < p4) = false := decide_eq_false (by omega)
          have hw6 : IntKind.i64.wrap ((i : Int) + p3) = (i : Int) + p3 := IntWalk.i64_in _ (by omega)
          have hd6 : decide (e < (i : Int) + p3) = false := decide_eq_false (by omega)
          have hwK : IntKind.i64.wrap ((K : Int) + 1) = (K : Int) + 1 := IntWalk.i64_in _ (by omega)
          have HW3 : Aside0 (Below w4.heap.size w4 (wr.alloc (.cells #[.int .i64 m0, .int .i64 i, .int .i64 p2, .int .i64 p3, .int .i64 p4] 40))) := ⟨HW2.out.alloc HW2.out.size _⟩
          subst hAp hAe
          clear hcells hcell hcells2 hcells3 hcell3 hcl hcl2 hcl3 hKK hKK2 hx hat hhigh hwide hend
          by_cases hj0 : j = 0
          · have hdj : decide (0 < (j : Int)) = false := decide_eq_false (by omega)
            have hdj2 : decide (0 < j) = false := decide_eq_false (by omega)
            clear hcell2 hprev tr hj0
            go_wp2
            simp only [List.append_eq, List.cons_append, List.nil_append]
            go_quiet (fail)
            go_wp2
            refine ⟨⟨j + 1, by omega, by go_num, by (have := HK.out; congr 1; omega), ⟨pw_below_drewN HW3.out _⟩⟩, ?_⟩
            simp [intOf]; omega
          · have hdj : decide (0 < (j : Int)) = true := decide_eq_true (by omega)
            have hdj2 : decide (0 < j) = true := decide_eq_true (by omega)
            obtain ⟨hk0, hq, hq2, hq4, hqq⟩ := hprev (by omega)
            obtain ⟨K1, hK1⟩ : ∃ K1, K1 = K - 1 := ⟨_, rfl⟩
            rw [← hK1] at hq
            have hwK1 : IntKind.i64.wrap ((K : Int) - 1) = (K1 : Int) := (IntWalk.i64_in _ (by omega)).trans (by omega)
            have hK1z : (K1 : Int) < (ps.length : Int) := by omega
            have hwq : IntKind.i64.wrap (q2 + q4) = q2 + q4 := IntWalk.i64_in _ (by omega)
            have hd7 : decide (p2 < q2 + q4) = false := decide_eq_false (by omega)
            obtain ⟨ap', hAp', hcells2'⟩ := HPs.out.2.2 (by omega)
            cases hAp'
            obtain ⟨cs4, hcl4, hKK4, hcell4⟩ := hcells2' K1 _ hq
            obtain rfl := k40_open hKK4
            have z2 : wr.cell? ⟨(ap.add (K1 * 5)).block, (ap.add (K1 * 5)).off + 2, none⟩ = some (.int .i64 q2) := by rw [← add_field _ _ 2 (by omega)]; exact tr (hcell4 2 _ rfl)
            have z4 : wr.cell? ⟨(ap.add (K1 * 5)).block, (ap.add (K1 * 5)).off + 4, none⟩ = some (.int .i64 q4) := by rw [← add_field _ _ 4 (by omega)]; exact tr (hcell4 4 _ rfl)
            have zb : (ap.add (K1 * 5)).block < wr.heap.size := World.block_lt_of_cell? wr ⟨(ap.add (K1 * 5)).block, (ap.add (K1 * 5)).off + 2, none⟩ z2
            clear hcell2 hprev tr hcells2' hcl4 hKK4 hcell4 hq hq2 hq4 hqq hK1
            go_wp2
            simp only [List.append_eq, List.cons_append, List.nil_append]
            go_quiet (fail)
            go_wp2
            refine ⟨⟨j + 1, by omega, by go_num, by (have := HK.out; congr 1; omega), ⟨pw_below_drewN HW3.out _⟩⟩, ?_⟩
            simp [intOf]; omega
        · have hjl : j = row.length := by omega
          subst hjl
          have HN := Lib.hid (show offs c (i + 1) = O + row.length by rw [offs_next HROW.out, HO.out])
          go_wp2
          go_roundw
          case rel => exact ⟨i + 1, by omega, by go_num, by rw [HN.out], HW2⟩
          case measure => simp [intOf]; omega
    · have hil : i = c.length := by omega
      subst hil
      have HPL2 := Lib.hid HPL.out
      rw [← HPL.out]
      go_wp2
      go_ret
      exact ⟨by simp, below_then HB4.out HB4.out.size HW.out⟩
end
end Go.Proofs.Ytfoocmmjefdojaa.K
