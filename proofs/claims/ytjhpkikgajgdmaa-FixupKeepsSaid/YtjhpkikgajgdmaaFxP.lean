/- Layer 5: FixupKeeps, walked. -/
import Derived.Test.YtjhpkikgajgdmaaFxL5
import Derived.Test.YtjhpkikgajgdmaaFxS
import Derived.Test.YtjhpkikgajgdmaaStEs
namespace Go.Proofs.Ytjhpkikgajgdmaa.K
open Go.RowKit Go.Proofs.YtjhpkikgajgdmaaW.PrintWords Go.Proofs.YtjhpkikgajgdmaaW.PrintLast Go.Proofs.YtjhpkikgajgdmaaW.PrintMore
set_option linter.unusedVariables false
set_option linter.unusedSimpArgs false
attribute [local go_sem] Oper.semAt_some

/-- a node's cells that the law reads -/
theorem keep_at {w : World} {A : Option Addr} {n : Nat} {xs : List Nd} (h : Kd.C k43 w A n xs) {j : Nat} {x : Nd} (hx : xs[j]? = some x) : ∃ ad Ak ck A3 c3, A = some ad ∧ w.cell? (ad.add (j * 34)) = some (.int .i64 x.f0) ∧ w.cell? ⟨(ad.add (j * 34)).block, (ad.add (j * 34)).off + 1, none⟩ = some (.slice Ak x.f1.length ck) ∧ w.cell? ⟨(ad.add (j * 34)).block, (ad.add (j * 34)).off + 31, none⟩ = some (.slice A3 x.f3.length c3) ∧ w.cell? ⟨(ad.add (j * 34)).block, (ad.add (j * 34)).off + 33, none⟩ = some (.int .i64 x.f5) ∧
    ∀ q u, (styN x.f2).cells.toList[q]? = some u → w.cell? ((⟨(ad.add (j * 34)).block, (ad.add (j * 34)).off + 2, none⟩ : Addr).add q) = some u := by
  obtain rfl := h.1
  have hj := (List.getElem?_eq_some_iff.1 hx).1
  obtain ⟨ad, hA, hcl⟩ := h.2.2 (by omega)
  obtain ⟨c, hl, hK, hcell⟩ := hcl j x hx
  obtain ⟨A1, c1, A31, c31, hn⟩ := nodeC_of hK
  have hg : ∀ q u, c[q]? = some u → w.cell? (ad.add (j * 34 + q)) = some u := hcell
  refine ⟨ad, A1, c1, A31, c31, hA, hg 0 _ hn.k0, ?_, ?_, ?_, fun q u hq => ?_⟩
  · rw [← add_field _ _ 1 (by omega)]; exact hg 1 _ hn.k1
  · rw [← add_field _ _ 31 (by omega)]; exact hg 31 _ hn.k31
  · rw [← add_field _ _ 33 (by omega)]; exact hg 33 _ hn.k33
  · rw [← add_field _ _ 2 (by omega), add_add, Nat.add_assoc]
    exact hg (2 + q) u (hn.sty q u hq)

theorem sty1_lit : (styN sty1).cells = #[.int .i64 0, .int .i64 0, .int .i64 0, .int .i64 0, .int .i64 0, .int .i64 0, .int .i64 0, .int .i64 0, .int .i64 0, .int .i64 0, .int .u32 0, .int .i64 0, .int .i64 0, .int .u32 0, .int .i64 0, .int .i64 0, .int .u32 0, .int .i64 0, .int .i64 0, .int .u32 0, .int .i64 1, .int .i64 1, .int .i64 0, .bool false, .bool false, .int .i64 0, .int .i64 0, .bool false, .bool false] := by kernel_rfl
theorem sty1_same (w : World) : (binOp .neq 40 (.agg (styN sty1).cells) (.agg #[.int .i64 0, .int .i64 0, .int .i64 0, .int .i64 0, .int .i64 0, .int .i64 0, .int .i64 0, .int .i64 0, .int .i64 0, .int .i64 0, .int .u32 0, .int .i64 0, .int .i64 0, .int .u32 0, .int .i64 0, .int .i64 0, .int .u32 0, .int .i64 0, .int .i64 0, .int .u32 0, .int .i64 1, .int .i64 1, .int .i64 0, .bool false, .bool false, .int .i64 0, .int .i64 0, .bool false, .bool false])).run Try.prog w = .ok (.bool false) w := by
  rw [← sty1_lit]
  unfold binOp Op.equal
  simp only [Sem.run_bind]
  rw [show Op.maxDepth = 9996 + 4 from rfl, eqSelf_sty 9996 (styN sty1) w]
  rfl
def purflinglaw05_FixupKeeps.f (l0 : List Nd) : Option Bool := some true
theorem pure_FixupKeeps {P : Prop} : ∀ l0 : List Nd, P → purflinglaw05_FixupKeeps.f l0 = some true := fun _ _ => rfl
set_option maxRecDepth 100000 in
set_option maxHeartbeats 8000000 in
theorem purflinglaw05_FixupKeeps.calls (A0 : Option Addr) (c0 : Nat) (l0 : List Nd) (r : Bool) (w : World) (hr0 : Kd.C k43 w A0 l0.length l0) (hc0 : l0.length ≤ c0) (h : purflinglaw05_FixupKeeps.f l0 = some r) :
    Calls Try.prog 5 #[.slice A0 l0.length c0] w fun e w' => e = .returned (.bool r) ∧ Below w.heap.size w w' := by
  obtain rfl : true = r := Option.some.inj h
  clear h
  have HSH := Lib.hid (fun W => purflinglaw05_shown.calls true W rfl)
  have HCUT := Lib.hid (fun W (hb : Below w.heap.size w W) => purflinglaw04_Cut.calls 0 (fun k_ => k_ < w.heap.size) A0 c0 l0 (cutL l0) W (Kd.V_mk hc0 (Kd.F_below (Kd.C_F k43_heap hr0) hb)) rfl)
  have hs := cut_small l0
  clear hr0 hc0
  by_cases q : (checkP (cutL l0)).2 = 0
  case neg =>
    have hf : fixup_Fix.f (cutL l0) = some ([], (checkP (cutL l0)).2) := by rw [cut_fix]; unfold fixR; rw [if_neg q]
    generalize (checkP (cutL l0)).2 = er at q hf
    generalize cutL l0 = l at hf HCUT
    have hqb : (er != 0) = true := by simpa using q
    have HF := Lib.hid hf
    clear hs hf q
    go_enter Try.func5, Try.ntmps5
    go_wp2_with (first
      | (go_at_call 10; refine (HSH.out _).mono ?_; rintro e w1 ⟨rfl, hb⟩; have HB := Lib.hid hb; clear hb HSH)
      | (go_at_call 16; refine (HCUT.out _ HB.out).mono ?_; rintro e w2 ⟨v2, rfl, hn, hb⟩; have HN := Lib.hid hn; have HB2 := Lib.hid (below_then HB.out HB.out.size hb); obtain ⟨A2, c2, rfl⟩ := Kd.N_slice hn; clear hn hb HB HCUT)
      | (go_at_call 15; refine (fixup_Fix.calls _ _ l [] er _ (Kd.N_reads' HN.out).2.2 (Kd.N_reads' HN.out).2.1 HF.out).mono ?_; rintro e w3 ⟨v3, rfl, hv3, hb⟩; obtain ⟨A3, c3, rfl⟩ := Kd.V_slice hv3; have HB3 := Lib.hid (below_then HB2.out HB2.out.size hb); clear hv3 hb HN HB2))
    go_ret
    exact ⟨rfl, HB3.out⟩
  obtain ⟨a, o, hf, ha, hkp, ⟨k1, h1⟩, ⟨k2, h2⟩, ⟨k3, h3⟩⟩ := keeps_facts q
  have hl1 := hs.1
  generalize cutL l0 = l at hf hkp h1 h2 HCUT hl1
  clear q hs
  have HF := Lib.hid hf
  have HKP := Lib.hid hkp
  have H1 := Lib.hid h1
  have H2 := Lib.hid h2
  have H3 := Lib.hid h3
  have hle := hkp.len
  have hdl : decide (a.length < l.length) = false := decide_eq_false (by omega)
  have hdz : decide ((a.length : Int) < (l.length : Int)) = false := decide_eq_false (by omega)
  clear hf hkp h1 h2 h3
  go_enter Try.func5, Try.ntmps5
  go_wp2_with (first
    | (go_at_call 10; refine (HSH.out _).mono ?_; rintro e w1 ⟨rfl, hb⟩; have HB := Lib.hid hb; clear hb HSH)
    | (go_at_call 16; refine (HCUT.out _ HB.out).mono ?_; rintro e w2 ⟨v2, rfl, hn, hb⟩; have HN := Lib.hid hn; have HB2 := Lib.hid (below_then HB.out HB.out.size hb); obtain ⟨A2, c2, rfl⟩ := Kd.N_slice hn; clear hn hb HB HCUT)
    | (go_at_call 15; refine (fixup_Fix.calls _ _ l a 0 _ (Kd.N_reads' HN.out).2.2 (Kd.N_reads' HN.out).2.1 HF.out).mono ?_; rintro e w3 ⟨v3, rfl, hv3, hb⟩; obtain ⟨A3, c3, rfl⟩ := Kd.V_slice hv3; have HB3 := Lib.hid (below_then HB2.out HB2.out.size hb); have HV3 := Lib.hid hv3; have HC2 := Lib.hid (And.intro (Kd.C_below (Kd.N_reads' HN.out).2.2 hb) (Kd.N_reads' HN.out).2.1); clear hv3 hb HN HB2))
  go_loopw [6] (fun i wr => ∃ j : Nat, j ≤ l.length ∧ i = .int .i64 j ∧ Aside0 (Below w3.heap.size w3 wr)) (fun i _ => l.length - (intOf i).toNat)
  case atStart => exact ⟨0, Nat.zero_le _, rfl, ⟨Below.refl _ _⟩⟩
  case round =>
    obtain ⟨j, hj, rfl, HR⟩ := hrel
    by_cases hlt : j < l.length
    · have hltz : (j : Int) < (l.length : Int) := by omega
      have hlta : j < a.length := by omega
      have hltza : (j : Int) < (a.length : Int) := by omega
      obtain ⟨x, hx⟩ : ∃ x, l[j]? = some x := ⟨_, List.getElem?_eq_getElem hlt⟩
      obtain ⟨y, hy⟩ : ∃ y, a[j]? = some y := ⟨_, List.getElem?_eq_getElem hlta⟩
      obtain ⟨e0, e3, e5⟩ := HKP.out.old j x y hx hy
      obtain ⟨ad, Ak, ck, Aw, cw, rfl, x0, x1, x31, x33, -⟩ := keep_at (Kd.C_below HC2.out.1 HR.out) hx
      obtain ⟨bd, Bk, dk, Bw, dw, rfl, y0, y1, y31, y33, -⟩ := keep_at (Kd.C_below (Kd.V_reads' HV3.out).2.2 HR.out) hy
      rw [e0] at y0
      rw [e3] at y31
      rw [e5] at y33
      have n0 : (x.f0 != x.f0) = false := by simp
      have n3 : (((x.f3.length : Nat) : Int) != ((x.f3.length : Nat) : Int)) = false := by simp
      have n5 : (x.f5 != x.f5) = false := by simp
      clear hx hy e0 e3 e5 x1 y1
      go_wp2
      go_quiet (fail)
      go_wp2
      go_roundw
      case rel => exact ⟨j + 1, by omega, by go_num, ⟨pw_below_drewN HR.out _⟩⟩
      case measure => simp [intOf]; omega
    · have hjl : j = l.length := by omega
      subst hjl
      go_wp2
      go_loopw [7] (fun i wr => ∃ j : Nat, l.length ≤ j ∧ j ≤ a.length ∧ i = .int .i64 j ∧ Aside0 (Below w3.heap.size w3 wr)) (fun i _ => a.length - (intOf i).toNat)
      case atStart => exact ⟨l.length, Nat.le_refl _, hle, rfl, HR⟩
      case round =>
        clear HR
        obtain ⟨j, hj1, hj, rfl, HR⟩ := hrel
        by_cases hlta : j < a.length
        · have hltza : (j : Int) < (a.length : Int) := by omega
          obtain ⟨y, hy⟩ : ∃ y, a[j]? = some y := ⟨_, List.getElem?_eq_getElem hlta⟩
          obtain ⟨e2, e1, e0⟩ := HKP.out.new j y hj1 hy
          obtain ⟨bd, Bk, dk, Bw, dw, rfl, y0, y1, y31, y33, ys⟩ := keep_at (Kd.C_below (Kd.V_reads' HV3.out).2.2 HR.out) hy
          rw [e2] at ys
          have hne := sty1_same
          have n1 : (((y.f1.length : Nat) : Int) == 0) = false := by
            rw [beq_eq_false_iff_ne]
            intro e
            exact e1 (List.eq_nil_of_length_eq_zero (by omega))
          have hlenS : (Try.prog.info? 40).map (·.size) = some (styN sty1).cells.toList.length := by kernel_rfl
          clear hy e1 e2 y31 y33
          rcases e0 with e0 | e0 | e0 <;> rw [e0] at y0
          · go_wp2_with (refine wpList_load_any rfl 40 _ rfl _ rfl (styN sty1).cells.toList _ ys Try.underlying40 rfl hlenS ?_)
            go_roundw
            case rel => exact ⟨j + 1, by omega, by omega, by go_num, HR⟩
            case measure => simp [intOf]; omega
          · go_wp2_with (refine wpList_load_any rfl 40 _ rfl _ rfl (styN sty1).cells.toList _ ys Try.underlying40 rfl hlenS ?_)
            go_roundw
            case rel => exact ⟨j + 1, by omega, by omega, by go_num, HR⟩
            case measure => simp [intOf]; omega
          · go_wp2_with (refine wpList_load_any rfl 40 _ rfl _ rfl (styN sty1).cells.toList _ ys Try.underlying40 rfl hlenS ?_)
            go_roundw
            case rel => exact ⟨j + 1, by omega, by omega, by go_num, HR⟩
            case measure => simp [intOf]; omega
        · have hjl : j = a.length := by omega
          subst hjl
          go_wp2_with (first
            | ((try (refine gate_guard (by rfl) ?_; dsimp only)); go_at_call 18; (refine (purflinglaw05_met.calls k1 _ _ a 0 (l.length : Int) (fun _ => False) (.slice none 0 0) ([] : List Int) o wr wr ?side1 ?side2 ?side3 ?side4 H1.out).mono ?_); (case side1 => exact Below.refl _ _); (case side2 => exact Kd.C_kept_ownV (Kd.V_below HV3.out HR.out) (fun _ _ hk => hk)); (case side3 => exact (Kd.V_reads' HV3.out).2.1); (case side4 => exact Kd.R_nil _ _ _ _ _); rintro e w4 ⟨v4, rfl, ho4, hb4, -⟩; obtain ⟨A4, c4, rfl⟩ := Kd.R_slice ho4; have HO4 := Lib.hid ho4; have HR4 := Lib.hid (below_then HR.out HR.out.size hb4); clear ho4 hb4)
            | ((try (refine gate_guard (by rfl) ?_; dsimp only)); go_at_call 19; (refine (purflingref04_Order.calls k2 _ _ l o _ (Kd.C_below HC2.out.1 HR4.out) HC2.out.2 H2.out).mono ?_); rintro e w5 ⟨v5, rfl, ho5, hb5⟩; obtain ⟨A5, c5, rfl⟩ := Kd.R_slice ho5; have HO5 := Lib.hid (Kd.R_reads' ho5); have HO4' := Lib.hid (Kd.R_reads' (Kd.R_below HO4.out hb5)); have HR5 := Lib.hid (below_then HR4.out HR4.out.size hb5); clear ho5 hb5 HO4)
            | ((try (refine gate_guard (by rfl) ?_; dsimp only)); go_at_call 17; (refine (purflingref04_Ints.calls k3 _ _ o _ _ o true _ HO4'.out.2.2 HO4'.out.2.1 HO5.out.2.2 HO5.out.2.1 H3.out).mono ?_); rintro e w6 ⟨rfl, ⟨nd, rfl⟩⟩))
          go_ret
          exact ⟨rfl, pw_below_drewN (below_then HB3.out HB3.out.size HR5.out) _⟩
end Go.Proofs.Ytjhpkikgajgdmaa.K
