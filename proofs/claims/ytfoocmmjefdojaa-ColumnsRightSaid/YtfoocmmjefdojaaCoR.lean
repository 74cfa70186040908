/- Layer 13: the walk of ColumnsRight. -/
import Derived.Test.YtfoocmmjefdojaaBands
import Derived.Test.YtfoocmmjefdojaaK17
import Derived.Deep.QuietTactic
import Derived.BigQuiet
namespace Go.Proofs.Ytfoocmmjefdojaa.K
open Go.RowKit Go.Proofs.YtfoocmmjefdojaaW.PrintWords Go.Proofs.YtfoocmmjefdojaaW.PrintLast Go.Proofs.YtfoocmmjefdojaaW.PrintMore
set_option linter.unusedVariables false
set_option linter.unusedSimpArgs false

def RightAt (bs : List S62) (x : S60) : Prop := ∃ (j : Nat) (b : S62), x.f0.f2 = (j : Int) ∧ bs[j]? = some b ∧ x.f1 ≤ b.f0 ∧ (b.f3 < 0 → x.f2 ≤ b.f1)

set_option maxRecDepth 100000 in
set_option maxHeartbeats 4000000 in
theorem rightlaw_no (l0 k0 : List S58) (l1 k1 : List S60) (bs : List S62) (A0 A1 : Option Addr) (c0 c1 : Nat) (w : World) (hr0 : Kd.C k58 w A0 l0.length l0) (hc0 : l0.length ≤ c0) (hr1 : Kd.C k60 w A1 l1.length l1) (hc1 : l1.length ≤ c1)
    (hs : purflinglaw13_shown.f = some true) (hcut : purflinglaw13_Cut.f l0 l1 = some (k0, k1)) (hb : columns_Bands.f k0 k1 = some (bs, 130)) :
    Calls Try.prog 14 #[.slice A0 l0.length c0, .slice A1 l1.length c1] w fun e w' => e = .returned (.bool true) ∧ Below w.heap.size w w' := by
  have H1 := Lib.hid fun W => purflinglaw13_shown.calls true W hs
  have H2 := Lib.hid fun (W : World) (hB : Below w.heap.size w W) => purflinglaw13_Cut.calls (fun k_ => k_ < w.heap.size) A0 c0 l0 (fun k_ => k_ < w.heap.size) A1 c1 l1 k0 k1 W (Kd.V_mk hc0 (Kd.F_below (Kd.C_F k58_heap hr0) hB)) (Kd.V_mk hc1 (Kd.F_below (Kd.C_F k60_heap hr1) hB)) hcut
  have H3 := Lib.hid fun (W : World) (B0 B1 : Option Addr) (d0 d1 : Nat) (g0 : Kd.C k58 W B0 k0.length k0) (e0 : k0.length ≤ d0) (g1 : Kd.C k60 W B1 k1.length k1) (e1 : k1.length ≤ d1) => columns_Bands.calls B0 d0 k0 B1 d1 k1 bs 130 W g0 e0 g1 e1 hb
  clear hr0 hc0 hr1 hc1 hs hcut hb
  go_enter Try.func14, Try.ntmps14
  go_upto_region 3 with (first
    | (go_at_call 26; refine (H1.out _).mono ?_; rintro e w1 ⟨rfl, hb1⟩; have hB1 : Below w.heap.size w w1 := hb1)
    | (go_at_call 27; refine (H2.out _ hB1).mono ?_; rintro e w2 ⟨v0, v1, rfl, ho0, ho1, hb2⟩; have hB2 := hB1.trans (hb2.mono hB1.size); obtain ⟨B0, d0, rfl⟩ := Kd.V_slice ho0; obtain ⟨B1, d1, rfl⟩ := Kd.V_slice ho1))
  have hv0 := (Kd.V_reads' ho0).2
  have hv1 := (Kd.V_reads' ho1).2
  go_wp2_with (go_at_call 28; refine (H3.out _ _ _ _ _ hv0.2 hv0.1 hv1.2 hv1.1).mono ?_; rintro e w3 ⟨v3, rfl, ho3, hb3⟩; have hB3 := hB2.trans (hb3.mono hB2.size))
  go_returns
  exact ⟨rfl, hB3⟩

set_option maxRecDepth 100000 in
set_option maxHeartbeats 4000000 in
theorem rightlaw_yes (l0 k0 : List S58) (l1 k1 : List S60) (bs : List S62) (A0 A1 : Option Addr) (c0 c1 : Nat) (w : World) (hr0 : Kd.C k58 w A0 l0.length l0) (hc0 : l0.length ≤ c0) (hr1 : Kd.C k60 w A1 l1.length l1) (hc1 : l1.length ≤ c1)
    (hs : purflinglaw13_shown.f = some true) (hcut : purflinglaw13_Cut.f l0 l1 = some (k0, k1)) (hb : columns_Bands.f k0 k1 = some (bs, 0)) (hrb : columns_RightBands.f bs = some true) (hlen : bs.length = k0.length) (hl1 : k1.length ≤ 100) (hl0 : k0.length ≤ 100) (hN : ∀ x ∈ k1, x.f0.f4 = 1 → RightAt bs x) :
    Calls Try.prog 14 #[.slice A0 l0.length c0, .slice A1 l1.length c1] w fun e w' => e = .returned (.bool true) ∧ Below w.heap.size w w' := by
  have H1 := Lib.hid fun W => purflinglaw13_shown.calls true W hs
  have H2 := Lib.hid fun (W : World) (hB : Below w.heap.size w W) => purflinglaw13_Cut.calls (fun k_ => k_ < w.heap.size) A0 c0 l0 (fun k_ => k_ < w.heap.size) A1 c1 l1 k0 k1 W (Kd.V_mk hc0 (Kd.F_below (Kd.C_F k58_heap hr0) hB)) (Kd.V_mk hc1 (Kd.F_below (Kd.C_F k60_heap hr1) hB)) hcut
  have H3 := Lib.hid fun (W : World) (B0 B1 : Option Addr) (d0 d1 : Nat) (g0 : Kd.C k58 W B0 k0.length k0) (e0 : k0.length ≤ d0) (g1 : Kd.C k60 W B1 k1.length k1) (e1 : k1.length ≤ d1) => columns_Bands.calls B0 d0 k0 B1 d1 k1 bs 0 W g0 e0 g1 e1 hb
  have H4 := Lib.hid fun (W : World) (B0 : Option Addr) (d0 : Nat) (g0 : Kd.C k62 W B0 bs.length bs) (e0 : bs.length ≤ d0) => columns_RightBands.calls B0 d0 bs true W g0 e0 hrb
  have HN := Lib.hid hN
  have hlz : ((bs.length : Int) != (k0.length : Int)) = false := by rw [hlen]; simp
  have HLZ := Lib.hid hlz
  clear hr0 hc0 hr1 hc1 hs hcut hb hrb hN hlen hlz
  go_enter Try.func14, Try.ntmps14
  go_upto_region 3 with (first
    | (go_at_call 26; refine (H1.out _).mono ?_; rintro e w1 ⟨rfl, hb1⟩; have hB1 : Below w.heap.size w w1 := hb1)
    | (go_at_call 27; refine (H2.out _ hB1).mono ?_; rintro e w2 ⟨v0, v1, rfl, ho0, ho1, hb2⟩; have hB2 := hB1.trans (hb2.mono hB1.size); obtain ⟨B0, d0, rfl⟩ := Kd.V_slice ho0; obtain ⟨B1, d1, rfl⟩ := Kd.V_slice ho1))
  have hv0 := (Kd.V_reads' ho0).2
  have hv1 := (Kd.V_reads' ho1).2
  go_upto_region 6 with (go_at_call 28; refine (H3.out _ _ _ _ _ hv0.2 hv0.1 hv1.2 hv1.1).mono ?_; rintro e w3 ⟨v3, rfl, ho3, hb3⟩; have hB3 := hB2.trans (hb3.mono hB2.size); have hC3 := Kd.C_below hv1.2 hb3; obtain ⟨B3, d3, rfl⟩ := Kd.R_slice ho3)
  have hv3 := (Kd.R_reads' ho3).2
  have HV3 := Lib.hid hv3
  have HV1 := Lib.hid hC3
  have HB3 := Lib.hid hB3
  have hlz := HLZ.out
  clear ho0 ho1 ho3 hv0 hv1 hv3 hb1 hb2 hb3 hB1 hB2 hB3 hC3
  go_upto_region 8 with (go_at_call 33; refine (H4.out _ _ _ HV3.out.2 HV3.out.1).mono ?_; rintro e w4 ⟨rfl, hb4⟩)
  have hN4 : Aside0 (Kd.C k60 w4 B1 k1.length k1) := ⟨Kd.C_below HV1.out hb4⟩
  have hB4 : Aside0 (Kd.C k62 w4 B3 bs.length bs) := ⟨Kd.C_below HV3.out.2 hb4⟩
  have hW4 : Aside0 (Below w.heap.size w w4) := ⟨HB3.out.trans (hb4.mono HB3.out.size)⟩
  clear hb4 HV1 HV3 HB3 hlz
  go_wp2
  go_loopw [8] (fun i wr => ∃ k : Nat, k ≤ k1.length ∧ i = .int .i64 k ∧ Aside0 (Kd.C k60 wr B1 k1.length k1) ∧ Aside0 (Kd.C k62 wr B3 bs.length bs) ∧ Aside0 (Below w.heap.size w wr)) (fun i _ => k1.length - (intOf i).toNat)
  case atStart => exact ⟨0, by omega, rfl, hN4, hB4, hW4⟩
  case round =>
    obtain ⟨k, hk, rfl, hn, hbd, hB⟩ := hrel
    clear hN4 hB4 hW4
    by_cases hlt : k < k1.length
    · have hltz : (k : Int) < (k1.length : Int) := by omega
      obtain ⟨x, hx⟩ : ∃ x, k1[k]? = some x := ⟨_, List.getElem?_eq_getElem hlt⟩
      obtain ⟨ad, hA, hcells⟩ := hn.out.2.2 (by omega)
      obtain ⟨cs, hcl, hK, hcell⟩ := hcells k x hx
      obtain rfl := k60_open hK
      have hx0 : wr.cell? (ad.add (k * 9)) = some (.int .i64 x.f0.f0) := hcell 0 _ rfl
      have hx1 : wr.cell? ⟨(ad.add (k * 9)).block, (ad.add (k * 9)).off + 1, none⟩ = some (.int .i64 x.f0.f1) := by rw [← add_field _ _ 1 (by omega)]; exact hcell 1 _ rfl
      have hx2 : wr.cell? ⟨(ad.add (k * 9)).block, (ad.add (k * 9)).off + 2, none⟩ = some (.int .i64 x.f0.f2) := by rw [← add_field _ _ 2 (by omega)]; exact hcell 2 _ rfl
      have hx3 : wr.cell? ⟨(ad.add (k * 9)).block, (ad.add (k * 9)).off + 3, none⟩ = some (.int .i64 x.f0.f3) := by rw [← add_field _ _ 3 (by omega)]; exact hcell 3 _ rfl
      have hx4 : wr.cell? ⟨(ad.add (k * 9)).block, (ad.add (k * 9)).off + 4, none⟩ = some (.int .i64 x.f0.f4) := by rw [← add_field _ _ 4 (by omega)]; exact hcell 4 _ rfl
      have hx5 : wr.cell? ⟨(ad.add (k * 9)).block, (ad.add (k * 9)).off + 5, none⟩ = some (.int .i64 x.f1) := by rw [← add_field _ _ 5 (by omega)]; exact hcell 5 _ rfl
      have hx6 : wr.cell? ⟨(ad.add (k * 9)).block, (ad.add (k * 9)).off + 6, none⟩ = some (.int .i64 x.f2) := by rw [← add_field _ _ 6 (by omega)]; exact hcell 6 _ rfl
      have hblk : (ad.add (k * 9)).block < wr.heap.size := World.block_lt_of_cell? wr _ hx0
      subst hA
      have HX := Lib.hid (show x.f0.f4 = 1 → RightAt bs x from HN.out x (List.mem_of_getElem? hx))
      clear hcells hcell hK hcl hx
      go_upto_region 12 with fail
      have hbel : Below wr.heap.size wr (wr.alloc (.cells #[.int .i64 x.f0.f0, .int .i64 x.f0.f1, .int .i64 x.f0.f2, .int .i64 x.f0.f3, .int .i64 x.f0.f4] 40)) := (Below.refl _ wr).alloc (Nat.le_refl _) _
      have hnew : BlkIs (wr.alloc (.cells #[.int .i64 x.f0.f0, .int .i64 x.f0.f1, .int .i64 x.f0.f2, .int .i64 x.f0.f3, .int .i64 x.f0.f4] 40)) wr.heap.size 40 #[.int .i64 x.f0.f0, .int .i64 x.f0.f1, .int .i64 x.f0.f2, .int .i64 x.f0.f3, .int .i64 x.f0.f4] := World.alloc_heap_new wr _
      have y5 := (hbel.cell (p := ⟨(ad.add (k * 9)).block, (ad.add (k * 9)).off + 5, none⟩) hblk).trans hx5
      have y6 := (hbel.cell (p := ⟨(ad.add (k * 9)).block, (ad.add (k * 9)).off + 6, none⟩) hblk).trans hx6
      have n2 := BlkIs.cell hnew 2
      have n4 := BlkIs.cell hnew 4
      replace n2 : (wr.alloc (.cells #[.int .i64 x.f0.f0, .int .i64 x.f0.f1, .int .i64 x.f0.f2, .int .i64 x.f0.f3, .int .i64 x.f0.f4] 40)).cell? ⟨wr.heap.size, 2, none⟩ = some (.int .i64 x.f0.f2) := n2
      replace n4 : (wr.alloc (.cells #[.int .i64 x.f0.f0, .int .i64 x.f0.f1, .int .i64 x.f0.f2, .int .i64 x.f0.f3, .int .i64 x.f0.f4] 40)).cell? ⟨wr.heap.size, 4, none⟩ = some (.int .i64 x.f0.f4) := n4
      have hlN : wr.heap.size < (wr.alloc (.cells #[.int .i64 x.f0.f0, .int .i64 x.f0.f1, .int .i64 x.f0.f2, .int .i64 x.f0.f3, .int .i64 x.f0.f4] 40)).heap.size := by simp
      have hn2 : Aside0 (Kd.C k60 (wr.alloc (.cells #[.int .i64 x.f0.f0, .int .i64 x.f0.f1, .int .i64 x.f0.f2, .int .i64 x.f0.f3, .int .i64 x.f0.f4] 40)) (some ad) k1.length k1) := ⟨Kd.C_alloc hn.out _⟩
      have hbd2 : Aside0 (Kd.C k62 (wr.alloc (.cells #[.int .i64 x.f0.f0, .int .i64 x.f0.f1, .int .i64 x.f0.f2, .int .i64 x.f0.f3, .int .i64 x.f0.f4] 40)) B3 bs.length bs) := ⟨Kd.C_alloc hbd.out _⟩
      have hB2 : Aside0 (Below w.heap.size w (wr.alloc (.cells #[.int .i64 x.f0.f0, .int .i64 x.f0.f1, .int .i64 x.f0.f2, .int .i64 x.f0.f3, .int .i64 x.f0.f4] 40))) := ⟨hB.out.alloc hB.out.size _⟩
      clear hx0 hx1 hx2 hx3 hx4 hx5 hx6 hnew hbel hblk
      generalize (wr.alloc (.cells #[.int .i64 x.f0.f0, .int .i64 x.f0.f1, .int .i64 x.f0.f2, .int .i64 x.f0.f3, .int .i64 x.f0.f4] 40)) = W at y5 y6 n2 n4 hlN hn2 hbd2 hB2 ⊢
      generalize wr.heap.size = N at n2 n4 hlN ⊢
      clear hn hbd hB
      by_cases h4 : x.f0.f4 = 1
      · obtain ⟨j, b, e, hbj, h1, h2⟩ := HX.out h4
        obtain ⟨ab, hAb, hcb⟩ := hbd2.out.2.2 (List.length_pos_of_mem (List.mem_of_getElem? hbj))
        obtain ⟨cs, hcl, hK, hcell⟩ := hcb j b hbj
        obtain rfl := k62_open hK
        have hj : (j : Int) < (bs.length : Int) := by have := (List.getElem?_eq_some_iff.1 hbj).1; omega
        have b0 : W.cell? (ab.add (j * 4)) = some (.int .i64 b.f0) := hcell 0 _ rfl
        have b1 : W.cell? ⟨(ab.add (j * 4)).block, (ab.add (j * 4)).off + 1, none⟩ = some (.int .i64 b.f1) := by rw [← add_field _ _ 1 (by omega)]; exact hcell 1 _ rfl
        have b3 : W.cell? ⟨(ab.add (j * 4)).block, (ab.add (j * 4)).off + 3, none⟩ = some (.int .i64 b.f3) := by rw [← add_field _ _ 3 (by omega)]; exact hcell 3 _ rfl
        subst hAb
        rw [e] at n2
        rw [h4] at n4
        have hd2 : decide (b.f0 < x.f1) = false := decide_eq_false (by omega)
        clear hcb hcell hK hcl hbj e h4 HX
        by_cases h3 : b.f3 < 0
        · have hd4 : decide (b.f1 < x.f2) = false := decide_eq_false (by have := h2 h3; omega)
          have hd3 : decide (b.f3 < 0) = true := decide_eq_true h3
          clear h1 h2 h3
          go_quiet (fail)
          go_wp2
          go_roundw
          case rel => exact ⟨k + 1, by omega, by go_num, ⟨Kd.C_drewN hn2.out _⟩, ⟨Kd.C_drewN hbd2.out _⟩, ⟨pw_below_drewN hB2.out _⟩⟩
          case measure => simp [intOf]; omega
        · have hd3 : decide (b.f3 < 0) = false := decide_eq_false h3
          clear h1 h2 h3
          go_quiet (fail)
          go_wp2
          go_roundw
          case rel => exact ⟨k + 1, by omega, by go_num, ⟨Kd.C_drewN hn2.out _⟩, ⟨Kd.C_drewN hbd2.out _⟩, ⟨pw_below_drewN hB2.out _⟩⟩
          case measure => simp [intOf]; omega
      · have hd1 : (x.f0.f4 == 1) = false := by simpa using h4
        clear h4
        go_quiet (fail)
        go_wp2
        go_roundw
        case rel => exact ⟨k + 1, by omega, by go_num, ⟨Kd.C_drewN hn2.out _⟩, ⟨Kd.C_drewN hbd2.out _⟩, ⟨pw_below_drewN hB2.out _⟩⟩
        case measure => simp [intOf]; omega
    · have hkl : k = k1.length := by omega
      subst hkl
      go_wp2
      go_returns
      exact ⟨rfl, hB.out⟩
end Go.Proofs.Ytfoocmmjefdojaa.K
