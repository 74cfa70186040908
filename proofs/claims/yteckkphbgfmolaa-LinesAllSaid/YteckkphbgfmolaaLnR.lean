/- Layer 8: the reference's lines. -/
import Derived.Test.YteckkphbgfmolaaLnB
import Derived.Test.YteckkphbgfmolaaEv
import Derived.Test.YteckkphbgfmolaaK7
namespace Go.Proofs.Yteckkphbgfmolaa.Pure
open Go.RowKit Go.Proofs.Yteckkphbgfmolaa.K Go.Proofs.YteckkphbgfmolaaW.PrintWords Go.Proofs.YteckkphbgfmolaaW.PrintLast Go.Proofs.YteckkphbgfmolaaW.PrintMore
set_option linter.unusedVariables false
set_option linter.unusedSimpArgs false
/-- how wide words are, and the blanks between -/
def wideP (ws : List Int) (blank : Int) (f t : Nat) : Int := ((ws.take t).drop f).sum + blank * ((t - f - 1 : Nat) : Int)
theorem sum_bound : ∀ (l : List Int), (∀ x ∈ l, 0 ≤ x ∧ x ≤ 1073741824) → 0 ≤ l.sum ∧ l.sum ≤ 1073741824 * (l.length : Int)
  | [], h => by simp
  | x :: l, h => by
    have h1 := sum_bound l (fun y hy => h y (List.mem_cons_of_mem _ hy))
    have h2 := h x (List.mem_cons_self ..)
    rw [List.sum_cons, List.length_cons]
    omega
theorem wideP_bound {ws : List Int} {blank : Int} (hw : ∀ x ∈ ws, 0 ≤ x ∧ x ≤ 1073741824) (hl : ws.length ≤ 10000) (hb : 0 ≤ blank ∧ blank ≤ 1073741824) (f t : Nat) (ht : t ≤ ws.length) : 0 ≤ wideP ws blank f t ∧ wideP ws blank f t ≤ 21474836480000 := by
  unfold wideP
  have h1 := sum_bound ((ws.take t).drop f) (fun x hx => hw x (List.mem_of_mem_take (List.mem_of_mem_drop hx)))
  have h2 : ((ws.take t).drop f).length ≤ 10000 := by rw [List.length_drop, List.length_take]; omega
  have h3 : 0 ≤ blank * ((t - f - 1 : Nat) : Int) := Int.mul_nonneg hb.1 (by omega)
  have h4 : blank * ((t - f - 1 : Nat) : Int) ≤ 1073741824 * 10000 := Int.mul_le_mul hb.2 (by omega) (by omega) (by omega)
  omega
theorem wideP_one {ws : List Int} {blank : Int} {f : Nat} {x : Int} (hx : ws[f]? = some x) : wideP ws blank f (f + 1) = x := by
  unfold wideP
  rw [List.take_add_one, hx, List.drop_append, List.drop_of_length_le (by rw [List.length_take]; omega), show f + 1 - f - 1 = 0 by omega]
  have : f - (ws.take f).length = 0 := by have := (List.getElem?_eq_some_iff.1 hx).1; rw [List.length_take]; omega
  rw [this]; simp
theorem wideP_next {ws : List Int} {blank : Int} {f t : Nat} {x : Int} (hf : f < t) (hx : ws[t]? = some x) : wideP ws blank f (t + 1) = wideP ws blank f t + blank + x := by
  have hlt := (List.getElem?_eq_some_iff.1 hx).1
  unfold wideP
  have e : ((ws.take (t + 1)).drop f) = (ws.take t).drop f ++ [x] := by
    rw [List.take_add_one, hx, List.drop_append_of_le_length (by rw [List.length_take]; omega)]; rfl
  rw [e, List.sum_append]
  have h2 : blank * ((t + 1 - f - 1 : Nat) : Int) = blank * ((t - f - 1 : Nat) : Int) + blank := by
    rw [show t + 1 - f - 1 = (t - f - 1) + 1 by omega, Int.natCast_add, Int.mul_add]; simp
  rw [h2]; simp; omega
theorem satAdd_in {a b : Int} (h0 : -1000000000000000000 ≤ a + b) (h1 : a + b ≤ 1000000000000000000) : satAdd a b = a + b := by
  unfold satAdd; rw [if_neg (by omega), if_neg (by omega)]
theorem sat3 {w b x : Int} (hw : 0 ≤ w ∧ w ≤ 100000000000000) (hb : 0 ≤ b ∧ b ≤ 1073741824) (hx : 0 ≤ x ∧ x ≤ 1073741824) : [w, b, x].foldl satAdd 0 = w + b + x := by
  have e1 : satAdd 0 w = w := by rw [satAdd_in (by omega) (by omega)]; omega
  have e2 : satAdd w b = w + b := satAdd_in (by omega) (by omega)
  have e3 : satAdd (w + b) x = w + b + x := satAdd_in (by omega) (by omega)
  simp only [List.foldl_cons, List.foldl_nil]
  rw [e1, e2, e3]
theorem rwide_l0 (n : Nd) (hw : ∀ x ∈ n.f3, 0 ≤ x ∧ x ≤ 1073741824) (hl : n.f3.length ≤ 10000) (hb : 0 ≤ n.f4 ∧ n.f4 ≤ 1073741824) (f t : Nat) (ht : t ≤ n.f3.length) : ∀ (d j : Nat), j + d = t → f ≤ j →
    Ev (fun k => purflingref08_Wide.l0 k (f : Int) (t : Int) (wideP n.f3 n.f4 f j) (j : Int) (n.f0) (n.f1) (n.f2.f0.f0) (n.f2.f0.f1) (n.f2.f1.f0) (n.f2.f1.f1) (n.f2.f2.f0) (n.f2.f2.f1) (n.f2.f2.f2) (n.f2.f2.f3) (n.f2.f3.f0.f0) (n.f2.f3.f0.f1) (n.f2.f3.f0.f2) (n.f2.f3.f1.f0) (n.f2.f3.f1.f1) (n.f2.f3.f1.f2) (n.f2.f3.f2.f0) (n.f2.f3.f2.f1) (n.f2.f3.f2.f2) (n.f2.f3.f3.f0) (n.f2.f3.f3.f1) (n.f2.f3.f3.f2) (n.f2.f4) (n.f2.f5) (n.f2.f6) (n.f2.f7) (n.f2.f8) (n.f2.f9.f0) (n.f2.f9.f1) (n.f2.f10) (n.f2.f11) (n.f3) (n.f4) (n.f5)) (wideP n.f3 n.f4 f t)
  | 0, j, h, hf => by
    obtain rfl : j = t := by omega
    exact Ev.step (fun k => by rw [purflingref08_Wide.l0]) (ev_neg (by omega) (ev_now rfl))
  | d + 1, j, h, hf => by
    obtain ⟨x, hx, hm⟩ := at_some (xs := n.f3) (j := j) (by omega)
    have hwx := hw x hm
    have hbd := wideP_bound hw hl hb f j (by omega)
    refine Ev.step (fun k => by rw [purflingref08_Wide.l0]) (ev_pos (by omega) (ev_pos (by omega) (ev_pos (by omega) ?_)))
    rw [rd_at hx]
    by_cases hfj : (j : Int) > (f : Int)
    · refine ev_pos hfj ?_
      have h2 := wideP_next (blank := n.f4) (f := f) (t := j) (by omega) hx
      rw [wrap_ok (x := wideP n.f3 n.f4 f j + x) (by omega) (by omega), wrap_ok (by omega) (by omega), up_ok (by omega), show wideP n.f3 n.f4 f j + x + n.f4 = wideP n.f3 n.f4 f (j + 1) by rw [h2]; omega]
      exact rwide_l0 n hw hl hb f t ht d (j + 1) (by omega) (by omega)
    · refine ev_neg hfj ?_
      obtain rfl : f = j := by omega
      have h2 := wideP_one (blank := n.f4) hx
      have h0 : wideP n.f3 n.f4 f f = 0 := by
        unfold wideP; rw [List.drop_of_length_le (by rw [List.length_take]; omega), show f - f - 1 = 0 by omega]; simp
      rw [h0, wrap_ok (x := 0 + x) (by omega) (by omega), up_ok (by omega), show 0 + x = wideP n.f3 n.f4 f (f + 1) by rw [h2]; omega]
      exact rwide_l0 n hw hl hb f t ht d (f + 1) (by omega) (by omega)
theorem rwide_ev (n : Nd) (hR : rightB n = true) (f t : Nat) (hf : f ≤ t) (ht : t ≤ n.f3.length) : Ev (fun k => purflingref08_Wide.f k (n.f0) (n.f1) (n.f2.f0.f0) (n.f2.f0.f1) (n.f2.f1.f0) (n.f2.f1.f1) (n.f2.f2.f0) (n.f2.f2.f1) (n.f2.f2.f2) (n.f2.f2.f3) (n.f2.f3.f0.f0) (n.f2.f3.f0.f1) (n.f2.f3.f0.f2) (n.f2.f3.f1.f0) (n.f2.f3.f1.f1) (n.f2.f3.f1.f2) (n.f2.f3.f2.f0) (n.f2.f3.f2.f1) (n.f2.f3.f2.f2) (n.f2.f3.f3.f0) (n.f2.f3.f3.f1) (n.f2.f3.f3.f2) (n.f2.f4) (n.f2.f5) (n.f2.f6) (n.f2.f7) (n.f2.f8) (n.f2.f9.f0) (n.f2.f9.f1) (n.f2.f10) (n.f2.f11) (n.f3) (n.f4) (n.f5) (f : Int) (t : Int)) (wideP n.f3 n.f4 f t) := by
  obtain ⟨-, hl, hb, -, hw⟩ := right_facts hR
  have h0 : wideP n.f3 n.f4 f f = 0 := by
    unfold wideP; rw [List.drop_of_length_le (by rw [List.length_take]; omega), show f - f - 1 = 0 by omega]; simp
  have h := rwide_l0 n hw hl hb f t ht (t - f) f (by omega) (Nat.le_refl _)
  rw [h0] at h
  unfold purflingref08_Wide.f
  exact h
end Go.Proofs.Yteckkphbgfmolaa.Pure
namespace Go.Proofs.Yteckkphbgfmolaa.K
open Go.RowKit Go.Proofs.YteckkphbgfmolaaW.PrintWords Go.Proofs.YteckkphbgfmolaaW.PrintLast Go.Proofs.YteckkphbgfmolaaW.PrintMore Go.Proofs.Yteckkphbgfmolaa.Pure
set_option linter.unusedVariables false
set_option linter.unusedSimpArgs false
theorem rwide_any (A1 : Option Addr) (c1 : Nat) (A3 : Option Addr) (c3 : Nat) (n : Nd) (w : World) (hr1 : Kd.C (Kd.int .i64) w A1 n.f1.length n.f1) (hc1 : n.f1.length ≤ c1) (hr3 : Kd.C (Kd.int .i64) w A3 n.f3.length n.f3) (hc3 : n.f3.length ≤ c3) (hR : rightB n = true) (f t : Nat) (hf : f ≤ t) (ht : t ≤ n.f3.length) :
    Calls Try.prog 24 #[.agg (nodeC A1 c1 A3 c3 n), .int .i64 (f : Int), .int .i64 (t : Int)] w fun e w' => e = .returned (.int .i64 (wideP n.f3 n.f4 f t)) ∧ Below w.heap.size w w' := by
  obtain ⟨k, hk⟩ := (rwide_ev n hR f t hf ht).rounds
  exact purflingref08_Wide.calls k (n.f0) A1 c1 (n.f1) (n.f2.f0.f0) (n.f2.f0.f1) (n.f2.f1.f0) (n.f2.f1.f1) (n.f2.f2.f0) (n.f2.f2.f1) (n.f2.f2.f2) (n.f2.f2.f3) (n.f2.f3.f0.f0) (n.f2.f3.f0.f1) (n.f2.f3.f0.f2) (n.f2.f3.f1.f0) (n.f2.f3.f1.f1) (n.f2.f3.f1.f2) (n.f2.f3.f2.f0) (n.f2.f3.f2.f1) (n.f2.f3.f2.f2) (n.f2.f3.f3.f0) (n.f2.f3.f3.f1) (n.f2.f3.f3.f2) (n.f2.f4) (n.f2.f5) (n.f2.f6) (n.f2.f7) (n.f2.f8) (n.f2.f9.f0) (n.f2.f9.f1) (n.f2.f10) (n.f2.f11) A3 c3 (n.f3) (n.f4) (n.f5) (f : Int) (t : Int) _ w hr1 hc1 hr3 hc3 hk

set_option maxRecDepth 100000 in
set_option maxHeartbeats 4000000 in
theorem refbreak_yes (A1 : Option Addr) (c1 : Nat) (A3 : Option Addr) (c3 : Nat) (n : Nd) (width : Int) (w : World) (hr1 : Kd.C (Kd.int .i64) w A1 n.f1.length n.f1) (hc1 : n.f1.length ≤ c1) (hr3 : Kd.C (Kd.int .i64) w A3 n.f3.length n.f3) (hc3 : n.f3.length ≤ c3) (hR : rightB n = true) :
    Calls Try.prog 17 #[.agg (nodeC A1 c1 A3 c3 n), .int .i64 width] w fun e w' => ∃ v0_ : Value, e = .returned v0_ ∧ Kd.R k57 57 w' w.heap.size (fun _ => True) v0_ ((linesP n width).map lineS) ∧ Below w.heap.size w w' := by
  have hlen : (Try.prog.info? 35).map (·.size) = some (nodeC A1 c1 A3 c3 n).toList.length := by kernel_rfl
  obtain ⟨-, hl, hb, -, hw⟩ := right_facts hR
  have hwd := fun (V : World) (hbel : Below w.heap.size w V) (f t : Nat) (hf : f ≤ t) (ht : t ≤ n.f3.length) => rwide_any A1 c1 A3 c3 n V (Kd.C_below hr1 hbel) hc1 (Kd.C_below hr3 hbel) hc3 hR f t hf ht
  have q31 : (nodeC A1 c1 A3 c3 n)[31]? = some (.slice A3 n.f3.length c3) := rfl
  have HLEN := Lib.hid hlen
  have HW := Lib.hid hw
  have HL := Lib.hid hl
  have HB0 := Lib.hid hb
  have HWD := Lib.hid hwd
  have H3 := Lib.hid hr3
  have Q31 := Lib.hid q31
  clear hlen hw hl hb hwd hR hr1 hr3 hc1 hc3 q31
  unfold linesP
  obtain ⟨ws, hws⟩ : ∃ ws, ws = n.f3 := ⟨_, rfl⟩
  obtain ⟨blank, hblank⟩ : ∃ b, b = n.f4 := ⟨_, rfl⟩
  rw [← hws, ← hblank] at HWD ⊢
  rw [← hws] at HW HL Q31 H3
  rw [← hblank] at HB0
  clear hws hblank
  generalize nodeC A1 c1 A3 c3 n = cs at HLEN HWD Q31 ⊢
  have hlz : (ws.length : Int) ≤ 10000 := by have := HL.out; omega
  go_enter Try.func17, Try.ntmps17
  go_wp2
  go_loopw [5, 6, 7] (fun vo vf _ wr => ∃ (f k : Nat) (pre : List (Nat × Nat)), f ≤ ws.length ∧ ws.length ≤ f + k ∧ vf = .int .i64 f ∧ Aside0 (linesN ws blank width ws.length 0 = pre ++ linesN ws blank width k f) ∧ Aside0 (Kd.R k57 57 wr w.heap.size (fun _ => True) vo (pre.map lineS)) ∧ Aside0 (Blk wr w.heap.size 35 cs) ∧ Aside0 (Below w.heap.size w wr)) (fun _ vf _ _ => ws.length - (slotInt vf).toNat)
  case atStart => exact ⟨0, ws.length, [], by omega, by omega, rfl, ⟨rfl⟩, ⟨Kd.R_nil _ _ _ _ _⟩, ⟨Blk.new w _ _⟩, ⟨(Below.refl _ _).alloc (Nat.le_refl _) _⟩⟩
  case round =>
    obtain ⟨f, k, pre, hf, hk, rfl, HLI, HO, HBK, HBW⟩ := hrel
    have y31 : wr.cell? ⟨w.heap.size, 31, none⟩ = some (.slice A3 ws.length c3) := (Blk.cell HBK.out 31).trans Q31.out
    by_cases hlt : f < ws.length
    · obtain ⟨x, hx⟩ : ∃ x, ws[f]? = some x := ⟨_, List.getElem?_eq_getElem hlt⟩
      obtain ⟨k, rfl⟩ : ∃ k', k = k' + 1 := ⟨k - 1, by omega⟩
      have hltz : (f : Int) < (ws.length : Int) := by omega
      have HX := Lib.hid hx
      obtain ⟨E, hE⟩ : ∃ E, E = endN ws blank width ws.length (f + 1) x := ⟨_, rfl⟩
      have hli := HLI.out
      rw [linesN, hx] at hli
      dsimp only at hli
      rw [← hE] at hli
      have HLI2 := Lib.hid hli
      have hend : endN ws blank width ws.length (f + 1) (wideP ws blank f (f + 1)) = E := by rw [wideP_one hx, hE]
      have HEnd := Lib.hid hend
      clear hx hE hli hend HLI
      go_wp2
      go_loopw [7] (fun vt wr => ∃ (t kk : Nat), f + 1 ≤ t ∧ t ≤ ws.length ∧ ws.length ≤ t + kk ∧ vt = .int .i64 t ∧ Aside0 (endN ws blank width kk t (wideP ws blank f t) = E) ∧ Aside0 (Kd.R k57 57 wr w.heap.size (fun _ => True) u5 (pre.map lineS)) ∧ Aside0 (Blk wr w.heap.size 35 cs) ∧ Aside0 (Below w.heap.size w wr)) (fun vt _ => ws.length - (slotInt vt).toNat)
      case atStart => exact ⟨f + 1, ws.length, by omega, by omega, by omega, by simp, ⟨HEnd.out⟩, HO, HBK, HBW⟩
      case round =>
        obtain ⟨t, kk, ht1, ht2, ht3, rfl, hend, HO, HBK, HBW⟩ := hrel
        clear y31
        have y31 : wr.cell? ⟨w.heap.size, 31, none⟩ = some (.slice A3 ws.length c3) := (Blk.cell HBK.out 31).trans Q31.out
        by_cases hlt2 : t < ws.length
        · have hltz2 : (t : Int) < (ws.length : Int) := by omega
          obtain ⟨z, hz⟩ : ∃ z, ws[t]? = some z := ⟨_, List.getElem?_eq_getElem hlt2⟩
          obtain ⟨kk, rfl⟩ : ∃ k', kk = k' + 1 := ⟨kk - 1, by omega⟩
          have hend1 := hend.out
          have hbd := wideP_bound HW.out HL.out HB0.out f t ht2
          rw [endN, hz] at hend1
          dsimp only at hend1
          rw [sat3 ⟨hbd.1, by omega⟩ HB0.out (HW.out z (List.mem_of_getElem? hz)), ← wideP_next (by omega) hz] at hend1
          have hcall := HWD.out wr HBW.out f (t + 1) (by omega) (by omega)
          obtain ⟨s, hs⟩ : ∃ s, s = wideP ws blank f (t + 1) := ⟨_, rfl⟩
          rw [← hs] at hend1 hcall
          have HS := Lib.hid hs
          have HEnd1 := Lib.hid hend1
          rw [show ((t + 1 : Nat) : Int) = (t : Int) + 1 by simp] at hcall
          have HC := Lib.hid hcall
          have hrow := Blk.range HBK.out
          clear hz hend hend1 hcall hs hbd
          by_cases hle : s ≤ width
          · have hd := decide_eq_true hle
            go_wp2_with (first | ((try (refine gate_guard (by rfl) ?_; dsimp only)); refine wpList_load_mid rfl 35 _ rfl _ _ rfl _ _ hrow Try.underlying35 rfl HLEN.out ?_) | (go_at_call 24; refine HC.out.mono ?_; rintro e w8 ⟨rfl, hb8⟩))
            go_roundw
            case rel => exact ⟨t + 1, kk, by omega, by omega, by omega, by go_num, ⟨by have h := HEnd1.out; rw [if_neg (by omega), HS.out] at h; exact h⟩, ⟨Kd.R_below HO.out hb8⟩, ⟨Blk.below HBK.out hb8 (Blk.lt HBK.out)⟩, ⟨HBW.out.trans (hb8.mono HBW.out.size)⟩⟩
            case measure => simp [slotInt]; omega
          · have hd := decide_eq_false hle
            have hpl : pre.length ≤ 10000 := by have h1 := linesN_len ws blank width ws.length 0; rw [HLI2.out, List.length_append] at h1; have := HL.out; omega
            have hE : t = E := by have h := HEnd1.out; rw [if_pos (by omega)] at h; exact h
            subst hE
            go_wp2_with (first | ((try (refine gate_guard (by rfl) ?_; dsimp only)); refine wpList_load_mid rfl 35 _ rfl _ _ rfl _ _ hrow Try.underlying35 rfl HLEN.out ?_) | (go_at_call 24; refine HC.out.mono ?_; rintro e w8 ⟨rfl, hb8⟩; have HO8 := Aside0.mk (Kd.R_below HO.out hb8); have HBK8 := Aside0.mk (Blk.below HBK.out hb8 (Blk.lt HBK.out)); have HBW8 := Aside0.mk (HBW.out.trans (hb8.mono HBW.out.size))) | (at_builtin; refine Kd.R_append k57 (w0 := w) w.heap.size rfl (.tmp 31) (.tmp 35) 38 57 (.agg #[(.int .i64 0), (.int .i64 0)]) 16 rfl Try.underlying38 infoLine rfl (by decide) (by omega) u5 (pre.map lineS) (lineS (f, t)) [.int .i64 (f : Int), .int .i64 (t : Int)] (fun _ => True) (fun _ => False) rfl ?hx ?aP (fun _ hk => hk.elim) ?aF ?aO ?aB ?aS ?aL ?_; (case hx => go_simp); (case aP => exact k57_mkM _ _ _ _); (case aF => exact (fun _ _ => trivial)); (case aO => exact HO8.out); (case aB => exact HBW8.out); (case aS => exact (by have := (HBW8.out : Below _ _ _).size; simpa using this)); (case aL => rw [List.length_map]; omega); intro v1 w1 ho hb hg hat; have HO1 := Aside0.mk ho; have HB1 := Aside0.mk hb; have HK1 := Aside0.mk ((hg.block w.heap.size (Blk.lt HBK8.out) (Kd.R_ne HO8.out HBK8.out (by decide))).trans HBK8.out); clear ho hb hg hat))
            go_roundw
            case rel => exact ⟨t, k, pre ++ [(f, t)], by omega, by omega, rfl, ⟨by rw [HLI2.out, List.append_assoc]; rfl⟩, ⟨by rw [List.map_append]; exact HO1.out⟩, ⟨HK1.out⟩, HB1⟩
            case measure => simp [slotInt]; omega
        · obtain rfl : t = ws.length := by omega
          have hpl : pre.length ≤ 10000 := by have h1 := linesN_len ws blank width ws.length 0; rw [HLI2.out, List.length_append] at h1; have := HL.out; omega
          have hE := hend.out
          rw [endN_end] at hE
          subst hE
          go_wp2_with (at_builtin; refine Kd.R_append k57 (w0 := w) w.heap.size rfl (.tmp 31) (.tmp 35) 38 57 (.agg #[(.int .i64 0), (.int .i64 0)]) 16 rfl Try.underlying38 infoLine rfl (by decide) (by omega) u5 (pre.map lineS) (lineS (f, ws.length)) [.int .i64 (f : Int), .int .i64 (ws.length : Int)] (fun _ => True) (fun _ => False) rfl ?hx ?aP (fun _ hk => hk.elim) ?aF ?aO ?aB ?aS ?aL ?_; (case hx => go_simp); (case aP => exact k57_mkM _ _ _ _); (case aF => exact (fun _ _ => trivial)); (case aO => exact HO.out); (case aB => exact HBW.out); (case aS => exact (by have := (HBW.out : Below _ _ _).size; simpa using this)); (case aL => rw [List.length_map]; omega); intro v1 w1 ho hb hg hat; have HO1 := Aside0.mk ho; have HB1 := Aside0.mk hb; have HK1 := Aside0.mk ((hg.block w.heap.size (Blk.lt HBK.out) (Kd.R_ne HO.out HBK.out (by decide))).trans HBK.out); clear ho hb hg hat)
          go_roundw
          case rel => exact ⟨ws.length, k, pre ++ [(f, ws.length)], by omega, by omega, rfl, ⟨by rw [HLI2.out, List.append_assoc]; rfl⟩, ⟨by rw [List.map_append]; exact HO1.out⟩, ⟨HK1.out⟩, HB1⟩
          case measure => simp [slotInt]; omega
    · obtain rfl : f = ws.length := by omega
      have hnil : linesN ws blank width k ws.length = [] := by
        cases k with
        | zero => rfl
        | succ k => unfold linesN; rw [List.getElem?_eq_none (by omega)]
      have HN := Lib.hid hnil
      clear hnil
      go_wp2
      go_ret
      exact ⟨_, rfl, by rw [HLI.out, HN.out, List.append_nil]; exact HO.out, HBW.out⟩
def purflingref08_Break.f (a0_0 : Int) (l0_1 : List Int) (a0_2 : Int) (a0_3 : Int) (a0_4 : Int) (a0_5 : Int) (a0_6 : Int) (a0_7 : Int) (a0_8 : Int) (a0_9 : Int) (a0_10 : Int) (a0_11 : Int) (a0_12 : Int) (a0_13 : Int) (a0_14 : Int) (a0_15 : Int) (a0_16 : Int) (a0_17 : Int) (a0_18 : Int) (a0_19 : Int) (a0_20 : Int) (a0_21 : Int) (a0_22 : Int) (a0_23 : Int) (a0_24 : Int) (a0_25 : Bool) (a0_26 : Bool) (a0_27 : Int) (a0_28 : Int) (a0_29 : Bool) (a0_30 : Bool) (l0_31 : List Int) (a0_32 : Int) (a0_33 : Int) (a1 : Int) : Option ((List (S57))) :=
  if rightB (⟨a0_0, l0_1, ⟨⟨a0_2, a0_3⟩, ⟨a0_4, a0_5⟩, ⟨a0_6, a0_7, a0_8, a0_9⟩, ⟨⟨a0_10, a0_11, a0_12⟩, ⟨a0_13, a0_14, a0_15⟩, ⟨a0_16, a0_17, a0_18⟩, ⟨a0_19, a0_20, a0_21⟩⟩, a0_22, a0_23, a0_24, a0_25, a0_26, ⟨a0_27, a0_28⟩, a0_29, a0_30⟩, l0_31, a0_32, a0_33⟩ : Nd) = true then some ((linesP (⟨a0_0, l0_1, ⟨⟨a0_2, a0_3⟩, ⟨a0_4, a0_5⟩, ⟨a0_6, a0_7, a0_8, a0_9⟩, ⟨⟨a0_10, a0_11, a0_12⟩, ⟨a0_13, a0_14, a0_15⟩, ⟨a0_16, a0_17, a0_18⟩, ⟨a0_19, a0_20, a0_21⟩⟩, a0_22, a0_23, a0_24, a0_25, a0_26, ⟨a0_27, a0_28⟩, a0_29, a0_30⟩, l0_31, a0_32, a0_33⟩ : Nd) a1).map lineS) else none
theorem purflingref08_Break.calls (a0_0 : Int) (A0_1 : Option Addr) (c0_1 : Nat) (l0_1 : List Int) (a0_2 : Int) (a0_3 : Int) (a0_4 : Int) (a0_5 : Int) (a0_6 : Int) (a0_7 : Int) (a0_8 : Int) (a0_9 : Int) (a0_10 : Int) (a0_11 : Int) (a0_12 : Int) (a0_13 : Int) (a0_14 : Int) (a0_15 : Int) (a0_16 : Int) (a0_17 : Int) (a0_18 : Int) (a0_19 : Int) (a0_20 : Int) (a0_21 : Int) (a0_22 : Int) (a0_23 : Int) (a0_24 : Int) (a0_25 : Bool) (a0_26 : Bool) (a0_27 : Int) (a0_28 : Int) (a0_29 : Bool) (a0_30 : Bool) (A0_31 : Option Addr) (c0_31 : Nat) (l0_31 : List Int) (a0_32 : Int) (a0_33 : Int) (a1 : Int) (r : List (S57)) (w : World) (hr0_1 : Kd.C (Kd.int .i64) w A0_1 l0_1.length l0_1) (hc0_1 : l0_1.length ≤ c0_1) (hr0_31 : Kd.C (Kd.int .i64) w A0_31 l0_31.length l0_31) (hc0_31 : l0_31.length ≤ c0_31) (h : purflingref08_Break.f a0_0 l0_1 a0_2 a0_3 a0_4 a0_5 a0_6 a0_7 a0_8 a0_9 a0_10 a0_11 a0_12 a0_13 a0_14 a0_15 a0_16 a0_17 a0_18 a0_19 a0_20 a0_21 a0_22 a0_23 a0_24 a0_25 a0_26 a0_27 a0_28 a0_29 a0_30 l0_31 a0_32 a0_33 a1 = some r) :
    Calls Try.prog 17 #[.agg #[.int .i64 a0_0, .slice A0_1 l0_1.length c0_1, .int .i64 a0_2, .int .i64 a0_3, .int .i64 a0_4, .int .i64 a0_5, .int .i64 a0_6, .int .i64 a0_7, .int .i64 a0_8, .int .i64 a0_9, .int .i64 a0_10, .int .i64 a0_11, .int .u32 a0_12, .int .i64 a0_13, .int .i64 a0_14, .int .u32 a0_15, .int .i64 a0_16, .int .i64 a0_17, .int .u32 a0_18, .int .i64 a0_19, .int .i64 a0_20, .int .u32 a0_21, .int .i64 a0_22, .int .i64 a0_23, .int .i64 a0_24, .bool a0_25, .bool a0_26, .int .i64 a0_27, .int .i64 a0_28, .bool a0_29, .bool a0_30, .slice A0_31 l0_31.length c0_31, .int .i64 a0_32, .int .i64 a0_33], .int .i64 a1] w fun e w' => ∃ v0_ : Value, e = .returned (v0_) ∧ Kd.R k57 57 w' w.heap.size (fun _ => True) v0_ r ∧ Below w.heap.size w w' := by
  unfold purflingref08_Break.f at h
  by_cases hR : rightB (⟨a0_0, l0_1, ⟨⟨a0_2, a0_3⟩, ⟨a0_4, a0_5⟩, ⟨a0_6, a0_7, a0_8, a0_9⟩, ⟨⟨a0_10, a0_11, a0_12⟩, ⟨a0_13, a0_14, a0_15⟩, ⟨a0_16, a0_17, a0_18⟩, ⟨a0_19, a0_20, a0_21⟩⟩, a0_22, a0_23, a0_24, a0_25, a0_26, ⟨a0_27, a0_28⟩, a0_29, a0_30⟩, l0_31, a0_32, a0_33⟩ : Nd) = true
  · rw [if_pos hR] at h
    cases h
    exact refbreak_yes A0_1 c0_1 A0_31 c0_31 (⟨a0_0, l0_1, ⟨⟨a0_2, a0_3⟩, ⟨a0_4, a0_5⟩, ⟨a0_6, a0_7, a0_8, a0_9⟩, ⟨⟨a0_10, a0_11, a0_12⟩, ⟨a0_13, a0_14, a0_15⟩, ⟨a0_16, a0_17, a0_18⟩, ⟨a0_19, a0_20, a0_21⟩⟩, a0_22, a0_23, a0_24, a0_25, a0_26, ⟨a0_27, a0_28⟩, a0_29, a0_30⟩, l0_31, a0_32, a0_33⟩ : Nd) a1 w hr0_1 hc0_1 hr0_31 hc0_31 hR
  · rw [if_neg hR] at h; cases h
end Go.Proofs.Yteckkphbgfmolaa.K
