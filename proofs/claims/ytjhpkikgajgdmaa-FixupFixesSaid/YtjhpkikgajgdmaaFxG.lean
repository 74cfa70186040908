/- Layer 5: the reference's Fix walked. -/
import Derived.Test.YtjhpkikgajgdmaaFxG1
import Derived.Test.YtjhpkikgajgdmaaFxK
import Derived.Test.YtjhpkikgajgdmaaFxN
namespace Go.Proofs.Ytjhpkikgajgdmaa.K
open Go.RowKit Go.Proofs.YtjhpkikgajgdmaaW.PrintWords Go.Proofs.YtjhpkikgajgdmaaW.PrintLast Go.Proofs.YtjhpkikgajgdmaaW.PrintMore
set_option linter.unusedVariables false
set_option linter.unusedSimpArgs false
attribute [local go_sem] Oper.semAt_some
theorem ldr_all (w : World) (k : Nat) : LdR w (fun _ => True) k := by
  unfold LdR
  by_cases h : k < w.heap.size
  · exact .inl ⟨trivial, h⟩
  · exact .inr (by omega)
/-- the reference's Computed: its rows are its own -/
theorem rcomp_nds (A : Option Addr) (c : Nat) (l : List Nd) (w : World) (hN : Kd.C k43 w A l.length l) (hc : l.length ≤ c) (h0 : 0 < l.length) (hbig : l.length ≤ 100000) (hv : ∀ n ∈ l, validB (styN n.f2) = true) :
    Calls Try.prog 35 #[.slice A l.length c] w fun e w' => ∃ O c1 rows, e = .returned (.slice (some ⟨O, 0, none⟩) (compP l).length c1) ∧ NdsI w w' (fun k => LdR w (fun _ => True) k ∧ k ≠ O) O c1 (compP l) rows none ∧ Below w.heap.size w w' := by
  obtain ⟨CS, hCS⟩ := nodesAt_of hN
  have hF := Kd.C_F k43_heap hN
  have hrows := Kd.F_rows hF
  refine (rcomp_own A c l w CS hCS hc hbig hv).mono ?_
  rintro e w' ⟨A1, c1, rfl, hR, hB⟩
  obtain ⟨O, cap, hv1, hO1, hO2, -⟩ := Kd.R_form hR (by rw [List.length_map, List.length_range]; exact h0)
  rw [show ((List.range l.length).map (fun i => compV (l.getD i z43) (CS i))).length = l.length by rw [List.length_map, List.length_range]] at hv1
  have hlen : ((List.range l.length).map (fun i => compV (l.getD i z43) (CS i))).length = (compP l).length := by rw [List.length_map, List.length_range, compP_len]
  injection hv1 with hA _ hcc
  subst hA hcc
  refine ⟨O, c1, _, by rw [compP_len], ⟨?_, hlen, fun q x cs _ hx hcs => ?_⟩, hB⟩
  · rw [compP_len]
    exact Kd.R_mono (Kd.raw_tight hR) (fun k hk => by simpa [Value.ownBlock] using hk)
  · unfold compP at hx
    rw [List.getElem?_map] at hx hcs
    obtain ⟨y, hy, rfl⟩ := Option.map_eq_some_iff.1 hx
    obtain ⟨i, hi, rfl⟩ := Option.map_eq_some_iff.1 hcs
    have hq : i = q := by
      obtain ⟨h1, h2⟩ := List.getElem?_eq_some_iff.1 hi
      rw [List.getElem_range] at h2; exact h2.symm
    subst hq
    obtain ⟨ad, hA, hcl⟩ := hrows.2.2 (by have := (List.getElem?_eq_some_iff.1 hy).1; omega)
    obtain ⟨cs, hl34, hFK, hcell⟩ := hcl i y hy
    obtain ⟨ad', hA', hl', -, hcells, -⟩ := hCS i y hy
    rw [hA] at hA'
    injection hA' with hA'
    subst hA'
    have hcs : cs = CS i := by
      apply List.ext_getElem?
      intro j
      by_cases hj : j < 34
      · have e1 := hcell j _ (List.getElem?_eq_getElem (by rw [hl34]; exact hj))
        have e2 := hcells j _ (List.getElem?_eq_getElem (by rw [hl']; exact hj))
        have e3 := e1.symm.trans e2
        rw [List.getElem?_eq_getElem (by rw [hl34]; exact hj), List.getElem?_eq_getElem (by rw [hl']; exact hj)]
        exact e3
      · rw [List.getElem?_eq_none (by rw [hl34]; show 34 ≤ j; omega), List.getElem?_eq_none (by rw [hl']; omega)]
    subst hcs
    have e : l.getD i z43 = y := by rw [List.getD_eq_getElem?_getD, hy]; rfl
    rw [e]
    intro W' hW
    refine compV_K (hFK W' (fun k hk hlt => ?_))
    refine (hW k ⟨ldr_all w k, fun e => ?_⟩ (Nat.lt_of_lt_of_le hlt hB.size)).trans (hB.block k hlt)
    omega
section
variable {w W V : World} {P0 : Nat → Prop} {S O cap : Nat} {Ak : Option Addr} {n : Nd} {cs : List Value} {xs : List Nd} {ks : List Int} {op : Option Nat} {vk vo : Value} {rows : List (List Value)}
theorem NdsI.start (h : NdsI w W (fun k => LdR w P0 k ∧ k ≠ O) O cap xs rows none) {i : Nat} (hn : xs[i]? = some n) (hb : Below w.heap.size w W) :
    ∃ (cs : List Value) (Ak : Option Addr) (ck : Nat), cs.length = 34 ∧ (∀ u ∈ cs, u.oneCell' = true) ∧ (∀ q u, cs[q]? = some u → W.cell? ⟨O, i * 34 + q, none⟩ = some u) ∧ cs[0]? = some (.int .i64 n.f0) ∧ cs[1]? = some (.slice Ak n.f1.length ck) ∧ n.f1.length ≤ ck ∧
      (∀ V, Below W.heap.size W V → BlkIs V W.heap.size 43 cs.toArray → RefI w P0 W.heap.size Ak n cs V O cap [] xs none (.slice none 0 0) (.slice none 0 0) rows) := by
  obtain ⟨c, hc, hl, hone, hcell, -⟩ := h.cells (List.getElem?_eq_some_iff.1 hn).1
  have hFK := h.elem i n c (by simp) hn hc
  obtain ⟨Ak, ck, A3, c3, hce, hk1, hF1, -, -⟩ := k43_openF hFK
  have hlt := h.lt
  refine ⟨c, Ak, ck, hl, hone, hcell, by rw [hce]; rfl, by rw [hce]; rfl, hk1, fun V hV hB => ?_⟩
  have hL : ∀ k, LdR w P0 k ∧ k ≠ O → k < W.heap.size → LdS w P0 O W.heap.size (.slice none 0 0) (.slice none 0 0) k := fun k hk hlt => ⟨hk.1, hk.2, by omega, by simp [Value.ownBlock], by simp [Value.ownBlock]⟩
  exact ⟨h.step (hV.block O hlt) (fun k _ hlt => hV.block k hlt) hL, (fun o ho => (by cases ho)), (fun _ => rfl), Kd.R_nil _ _ _ _ _, hB,
    Kd.F_mono (Kd.F_below (Kd.F_bound hF1) hV) (fun k hk => hL k hk.1 hk.2), below_then hb hb.size hV, hb.size, by omega⟩
theorem RefI.kind (h : RefI w P0 S Ak n cs W O cap ks xs op vk vo rows) {j : Nat} {x : Nd} (hx : xs[j]? = some x) : W.cell? ⟨O, j * 34, none⟩ = some (.int .i64 x.f0) := by
  obtain ⟨c, hc, hl, hone, hcell, -⟩ := h.nds.cells (List.getElem?_eq_some_iff.1 hx).1
  refine hcell 0 _ ?_
  by_cases e : op = some j
  · obtain ⟨x', c', g1, g2, g3, g4, g5⟩ := h.cur j e
    rw [hx] at g1
    rw [hc] at g2
    cases g1; cases g2
    obtain ⟨A1, c1, A3, c3, hn⟩ := nodeC_of (Kd.FK_now g4)
    have := hn.k0
    cases c with
    | nil => simp at hl
    | cons c0 c => simpa using this
  · obtain ⟨A1, c1, A3, c3, hn⟩ := nodeC_of (Kd.FK_now (h.nds.elem j x c e hx hc))
    exact hn.k0
theorem RefI.openK {o : Nat} (h : RefI w P0 S Ak n cs W O cap ks xs (some o) vk vo rows) : W.cell? ⟨O, o * 34 + 1, none⟩ = some vo ∧ o < xs.length := by
  obtain ⟨x', c', g1, g2, g3, g4, g5⟩ := h.cur o rfl
  obtain ⟨c, hc, hl, hone, hcell, -⟩ := h.nds.cells (List.getElem?_eq_some_iff.1 g1).1
  rw [g2] at hc
  cases hc
  exact ⟨hcell 1 _ g3, (List.getElem?_eq_some_iff.1 g1).1⟩
theorem RefI.kidAt (h : RefI w P0 S Ak n cs W O cap ks xs op vk vo rows) {j : Nat} {x : Int} (hx : n.f1[j]? = some x) : ∃ ak, Ak = some ak ∧ W.cell? (ak.add j) = some (.int .i64 x) := by
  have hC := Kd.F_now h.fk
  have hj := (List.getElem?_eq_some_iff.1 hx).1
  obtain ⟨ak, hA, hcl⟩ := hC.2.2 (by omega)
  obtain ⟨c, hl, hK, hcell⟩ := hcl j x hx
  obtain rfl : c = [.int .i64 x] := hK
  refine ⟨ak, hA, ?_⟩
  have h := hcell 0 _ rfl
  rwa [show ((Kd.int .i64).sz) = 1 from rfl, Nat.mul_one] at h
end
end Go.Proofs.Ytjhpkikgajgdmaa.K
namespace Go.Proofs.Ytjhpkikgajgdmaa.K
open Go.RowKit Go.Proofs.YtjhpkikgajgdmaaW.PrintWords Go.Proofs.YtjhpkikgajgdmaaW.PrintLast Go.Proofs.YtjhpkikgajgdmaaW.PrintMore
set_option linter.unusedVariables false
set_option linter.unusedSimpArgs false
attribute [local go_sem] Oper.semAt_some
theorem opIn_wideW {P : Program} {o : Oper} {a : Act} {w : World} {K : Act → World → Prop} {Q : Exit → Act → World → Prop} (hdef : ∀ c, o.op ≠ .defer c) (h : Oper.wp P o a w K Q) : Oper.wpIn Fence.wide 0 P o a w K Q := by
  refine ⟨fun _ _ => trivial, ?_⟩
  unfold Oper.wp at h
  show Oper.uponIn Fence.wide 0 P o a K Q ((Oper.semAt none a.eval o).run P w)
  rw [show Oper.semAt none a.eval o = execOp a.eval o from rfl]
  generalize (execOp a.eval o).run P w = r at h
  match r, h with
  | .ok (.value v) w', h => exact h
  | .ok .skip w', h => exact h
  | .ok (.defer d) w', h => exact h
  | .ok (.enter f args) w', h => exact ⟨fun h => absurd h (by simp [Fence.wide]), callsIn_wide.2 h⟩
  | .ok (.row row args) w', h => exact ⟨fun h => absurd h (by simp [Fence.wide]), (rowsIn_of' h : RowsIn Fence.wide 0 P row args w' _)⟩
  | .halt (.panic v) w', h => exact h
/-- what is open lies there, and has not too many kids -/
def OpenOK (s : List Int × List Nd × Option Nat) (c : Nat) : Prop := ∀ o, s.2.2 = some o → ∃ x, s.2.1[o]? = some x ∧ x.f1.length ≤ c
theorem open_step {n : Nd} {s : List Int × List Nd × Option Nat} {c : Nat} (h : OpenOK s c) (k : Int) : OpenOK (refStep n s k) (c + 1) := by
  intro o ho
  unfold refStep at ho ⊢
  split at ho
  · cases ho
  · rename_i hm
    rw [if_neg hm]
    cases hs : s.2.2 with
    | none =>
      rw [hs] at ho
      dsimp only at ho ⊢
      cases ho
      refine ⟨wrapN n.f0 [k], ?_, ?_⟩
      · rw [List.getElem?_append_right (Nat.le_refl _), Nat.sub_self]; rfl
      · show 1 ≤ c + 1; omega
    | some o' =>
      rw [hs] at ho
      dsimp only at ho ⊢
      cases ho
      obtain ⟨x, hx, hl⟩ := h o hs
      have hlt := (List.getElem?_eq_some_iff.1 hx).1
      refine ⟨_, List.getElem?_set_self hlt, ?_⟩
      rw [show s.2.1.getD o z43 = x by rw [List.getD_eq_getElem?_getD, hx]; rfl]
      show (x.f1 ++ [k]).length ≤ c + 1
      rw [List.length_append, List.length_singleton]; omega
theorem open_fold {n : Nd} : ∀ (l : List Int) (s : List Int × List Nd × Option Nat) (c : Nat), OpenOK s c → OpenOK (l.foldl (refStep n) s) (c + l.length)
  | [], s, c, h => h
  | k :: l, s, c, h => by
    have := open_fold (n := n) l (refStep n s k) (c + 1) (open_step h k)
    rw [List.foldl_cons, List.length_cons, show c + (l.length + 1) = c + 1 + l.length by omega]
    exact this
theorem NdsI.page {w W : World} {ok : Nat → Prop} {O cap : Nat} {xs : List Nd} {rows : List (List Value)} (h : NdsI w W ok O cap xs rows none) : xs.length ≤ cap ∧ Kd.C k43 W (some ⟨O, 0, none⟩) xs.length xs := by
  obtain ⟨h1, h2, h3⟩ := Kd.R_reads' h.own
  refine ⟨h2, c_of_raw h.len h3 (fun j x c hx hc => Kd.FK_now (h.elem j x c (by simp) hx hc))⟩
theorem nvW_one (k : Int) : ∀ u ∈ nvW k (.slice none 0 0), u.oneCell' = true :=
  List.forall_mem_cons.2 ⟨rfl, List.forall_mem_cons.2 ⟨rfl, List.all_eq_true.1 (by rfl)⟩⟩
theorem nvW_lit (k : Int) {W : World} (ok : Nat → Prop) (p : Int) : Kd.FK k43 W ok { wrapN p [] with f1 := [] } ((nvW (aroundP p) (.slice none 0 0)).take 1 ++ [.slice none 0 0] ++ (nvW (aroundP p) (.slice none 0 0)).drop (1 + 1)) :=
  nvW_FK (g := []) (A := none) (cp := 0) (Nat.le_refl 0) (Kd.F_nil _ _ _)
def opI : Option Nat → Int
  | none => -1
  | some o => o
set_option maxRecDepth 100000 in
set_option maxHeartbeats 8000000 in
theorem rfix_any (A0 : Option Addr) (c0 : Nat) (l0 : List Nd) (w : World) (hr0 : Kd.C k43 w A0 l0.length l0) (hc0 : l0.length ≤ c0) (hok : PageOK l0) (h65 : l0.length ≤ 65536) :
    Calls Try.prog 23 #[.slice A0 l0.length c0] w fun e w' => ∃ A1 c1, e = .returned (.slice A1 (fixP l0).length c1) ∧ (fixP l0).length ≤ c1 ∧ Kd.C k43 w' A1 (fixP l0).length (fixP l0) ∧ Below w.heap.size w w' := by
  have HC := Lib.hid (rcomp_nds A0 c0 l0 w hr0 hc0 hok.some (by omega) (fun n hn => (right_head (hok.right n hn)).2.2))
  have HST0 := Lib.hid (st_init hok)
  have H65 := Lib.hid h65
  clear hr0 hc0 hok
  go_enter Try.func23, Try.ntmps23
  go_wp2_with (go_at_call 35; refine HC.out.mono ?_; rintro e w1 ⟨O, c1, rows, rfl, hI, hb⟩; have HI := Lib.hid hI; have HB := Lib.hid hb; clear hI hb HC)
  go_loopw [3, 4, 5, 6, 7, 8, 9] (fun v3 v4 _ _ _ _ _ wr => ∃ (i k O cap : Nat) (xs : List Nd), v3 = .slice (some ⟨O, 0, none⟩) xs.length cap ∧ v4 = .int .i64 (i : Int) ∧ i + k = 4 * l0.length ∧ i ≤ xs.length ∧ Aside0 (fixGo k i xs = fixP l0) ∧ Aside0 (StOK l0.length xs i) ∧ Aside0 (∃ rows, NdsI w wr (fun k => LdR w (fun _ => True) k ∧ k ≠ O) O cap xs rows none) ∧ Aside0 (Below w.heap.size w wr)) (fun _ v4 _ _ _ _ _ _ => 4 * l0.length + 1 - (intOf v4).toNat)
  case atStart => exact ⟨0, 4 * l0.length, O, c1, compP l0, rfl, rfl, by omega, by omega, ⟨rfl⟩, ⟨HST0.out⟩, ⟨_, HI.out⟩, ⟨HB.out⟩⟩
  case round =>
    clear HI HB
    obtain ⟨i, k, O, cap, xs, rfl, rfl, hik, hix, HGO, HST, HI, HB⟩ := hrel
    by_cases hlt : i < xs.length
    · have hltz : (i : Int) < (xs.length : Int) := by omega
      obtain ⟨n, hn⟩ : ∃ n, xs[i]? = some n := ⟨_, List.getElem?_eq_getElem hlt⟩
      obtain ⟨rows, hI⟩ := HI.out
      obtain ⟨cs, Ak, ck, hlen, hone, hcells, hc0, hc1, hck, hS⟩ := hI.start hn HB.out
      have hnl : n.f1.length ≤ 4 * l0.length ∧ xs.length ≤ 4 * l0.length := ⟨(round_le HST.out hn (List.nil_append _).symm).2.2.2, (round_le HST.out hn (List.nil_append _).symm).2.2.1⟩
      have HN := Lib.hid hn
      have HC0 := Lib.hid hc0
      have HC1 := Lib.hid hc1
      have HSS := Lib.hid hS
      have hld : ∀ q v, cs[q]? = some v → wr.cell? ((⟨O, i * 34, none⟩ : Addr).add q) = some v := fun q v hv => by rw [add_at]; exact hcells q v hv
      have hinfo : (Try.prog.info? 43).map (·.size) = some cs.length := by rw [hlen]; kernel_rfl
      have hinfo2 : (Try.prog.info? 43).map (·.size) = some cs.toArray.size := by rw [List.size_toArray]; exact hinfo
      have hall : cs.toArray.all (·.oneCell') = true := all_oneCell_toArray hone
      have hT : ∀ Z : Array Value, Z.size = 34 → World.there (wr.alloc (.cells Z 43)) wr.heap.size 0 cs.toArray.size := fun Z hZ => Blk.there (Blk.new wr 43 Z) _ (by rw [List.size_toArray, hlen, hZ]; exact Nat.le_refl _)
      have HLN := Lib.hid hlen
      clear hI hn hc0 hc1 hS hcells hone hlen HI
      go_upto_region 6 with (first | (refine wpList_load_any rfl 43 _ rfl _ rfl cs _ hld Try.underlying43 rfl hinfo ?_) | (refine wpList_store_mid rfl 43 _ _ rfl wr.heap.size 0 (cs.toArray) rfl rfl (hT _ rfl) hinfo2 hall ?_))
      have hzv : (#[.int .i64 0, .slice none 0 0, .int .i64 0, .int .i64 0, .int .i64 0, .int .i64 0, .int .i64 0, .int .i64 0, .int .i64 0, .int .i64 0, .int .i64 0, .int .i64 0, .int .u32 0, .int .i64 0, .int .i64 0, .int .u32 0, .int .i64 0, .int .i64 0, .int .u32 0, .int .i64 0, .int .i64 0, .int .u32 0, .int .i64 0, .int .i64 0, .int .i64 0, .bool false, .bool false, .int .i64 0, .int .i64 0, .bool false, .bool false, .slice none 0 0, .int .i64 0, .int .i64 0] : Array Value) = zN := rfl
      rw [hzv]
      obtain ⟨hBk, hBw⟩ := filled_new wr 43 zN cs (by rw [HLN.out]; rfl)
      generalize (wr.alloc (.cells zN 43)).setCells wr.heap.size 0 cs = W3 at hBk hBw ⊢
      have hR0 := HSS.out W3 hBw hBk
      generalize wr.heap.size = S at hR0 ⊢
      have HR0 := Lib.hid hR0
      clear hBk hBw hzv hT hld hinfo hinfo2 hall hR0 HSS HB
      go_upto_region 9 with fail
      have hn1 := HN.out
      go_loopw [3, 6, 7, 8, 9] (fun v3 v6 v7 v8 _ wr => ∃ (m O' cap' : Nat) (ks : List Int) (xs' : List Nd) (op : Option Nat), v3 = .slice (some ⟨O', 0, none⟩) xs'.length cap' ∧ v7 = .int .i64 (opI op) ∧ v8 = .int .i64 (m : Int) ∧ m ≤ n.f1.length ∧ Aside0 ((n.f1.take m).foldl (refStep n) ([], xs, none) = (ks, xs', op)) ∧ Aside0 (∃ vo rows', RefI w (fun _ => True) S Ak n cs wr O' cap' ks xs' op v6 vo rows')) (fun _ _ _ v8 _ _ => n.f1.length - (intOf v8).toNat)
      case atStart => exact ⟨0, O, cap, [], xs, none, rfl, rfl, rfl, Nat.zero_le _, ⟨rfl⟩, ⟨_, _, HR0.out⟩⟩
      case round =>
        clear HR0
        obtain ⟨m, O1, cap1, ks, xs1, op, rfl, rfl, rfl, hm, HFO, HR⟩ := hrel
        have hle := ref_le (n := n) (n.f1.take m) ([], xs, none)
        rw [HFO.out, List.length_take] at hle
        dsimp only [List.length_nil] at hle
        by_cases hmt : m < n.f1.length
        · have hmtz : (m : Int) < (n.f1.length : Int) := by omega
          obtain ⟨x, hx⟩ : ∃ x, n.f1[m]? = some x := ⟨_, List.getElem?_eq_getElem hmt⟩
          have hxr := HST.out.kid n (List.mem_of_getElem? hn1) x (List.mem_of_getElem? hx)
          obtain ⟨q, rfl⟩ := Int.eq_ofNat_of_zero_le (show 0 ≤ x by omega)
          have hq : q < xs1.length := by omega
          have hqz : (q : Int) < (xs1.length : Int) := by omega
          obtain ⟨y, hy⟩ : ∃ y, xs1[q]? = some y := ⟨_, List.getElem?_eq_getElem hq⟩
          obtain ⟨vo, rows1, hR⟩ := HR.out
          have y0 : wr.cell? ⟨S, 0, none⟩ = some (.int .i64 n.f0) := by rw [BlkIs.cell hR.blk 0, List.getElem?_toArray]; exact HC0.out
          have y1 : wr.cell? ⟨S, 1, none⟩ = some (.slice Ak n.f1.length ck) := by rw [BlkIs.cell hR.blk 1, List.getElem?_toArray]; exact HC1.out
          obtain ⟨ak, hAk, yk⟩ := hR.kidAt hx
          have yq := hR.kind hy
          have hk : kindAt xs1 (q : Int) = y.f0 := by unfold kindAt; rw [rdNode hy]
          have HFS : Hid ((n.f1.take (m + 1)).foldl (refStep n) ([], xs, none) = refStep n (ks, xs1, op) (q : Int)) := Lib.hid (by rw [List.take_add_one, hx, List.foldl_append, HFO.out]; rfl)
          have HR1 := Lib.hid hR
          have HX := Lib.hid hx
          have HMAY := Lib.hid (fun W => purflingref05_May.calls 2 n.f0 y.f0 (mayB n.f0 y.f0) W (rmay_f n.f0 y.f0 0))
          have lS := BlkIs.lt hR.blk
          have HOP : Hid (OpenOK (ks, xs1, op) m) := Lib.hid (by
            have := open_fold (n := n) (n.f1.take m) ([], xs, none) 0 (fun o ho => by cases ho)
            rw [HFO.out, List.length_take] at this
            rw [show m = 0 + min m n.f1.length by omega]; exact this)
          clear hR HR hx hxr hy HFO
          generalize hb : mayB n.f0 y.f0 = b at HMAY
          have HK := Lib.hid (And.intro hk hb)
          clear hk hb
          subst hAk
          cases b
          · cases op with
            | none =>
              obtain rfl : vo = .slice none 0 0 := HR1.out.nocur rfl
              simp only [opI]
              go_wp2
              go_quiet (first | (go_at_call 12; (with_reducible refine (HMAY.out _).mono ?_); rintro e w' ⟨rfl, ⟨nd, rfl⟩⟩; (try first | exact ⟨rfl, _, World.drewN_drewN _ _ _⟩ | exact ⟨rfl, _, Eq.trans (World.drewN_drewN _ _ _) (congrArg (World.drewN _) (Nat.add_assoc _ _ _))⟩)))
              have HR2 := Lib.hid (HR1.out.below (pw_below_drewN (Below.refl _ _) nq))
              clear HR1 y0 y1 yk yq lS HMAY
              generalize wr.drewN nq = W2 at HR2 ⊢
              have HARO := Lib.hid (fun W => purflingref05_Around.calls 1 n.f0 (aroundP n.f0) W (raround_f n.f0 0))
              have y0 : W2.cell? ⟨S, 0, none⟩ = some (.int .i64 n.f0) := by rw [BlkIs.cell HR2.out.blk 0, List.getElem?_toArray]; exact HC0.out
              go_upto_region 17 with fail
              go_upto_region 18 with (first
                | (go_at_call 14; (with_reducible refine (HARO.out _).mono ?_); rintro e w' ⟨rfl, ⟨nd, rfl⟩⟩; have HR3 := Lib.hid (HR2.out.below (pw_below_drewN (Below.refl _ W2) nd)); obtain ⟨O2, cap2, W6, hrun, hR6⟩ := HR3.out.growN (y := wrapN n.f0 []) (c := nvW (aroundP n.f0) (.slice none 0 0)) (fun ok => nvW_lit 0 ok n.f0) rfl rfl (nvW_one _) rfl (by omega) 25; have HRUN := Lib.hid hrun; have HR6 := Lib.hid hR6; clear hrun hR6 HR3 HR2 HARO y0; generalize W2.drewN nd = W5 at HRUN ⊢)
                | (refine wpList_build rfl _ _ _ rfl _ #[(0, .agg (nvW (aroundP n.f0) (.slice none 0 0)).toArray)] (by kernel_rfl) (litW_build _ _ none 0 0) ?_)
                | ((with_reducible refine gate_builtin (b := .append) (xs := #[.tmp 54, .tmp 60]) rfl ?_); at_builtin; refine wpList_plain rfl (fun K hK => op_append (.tmp 54) (.tmp 60) 25 rfl rfl rfl HRUN.out (hK _ _ ?_)); clear HRUN hK K))
              obtain ⟨xs2, hxs2⟩ : ∃ z, z = xs1 ++ [wrapN n.f0 []] := ⟨_, rfl⟩
              have HXS := Lib.hid hxs2
              have hxl2 : xs1.length + 1 = xs2.length := by rw [hxs2]; simp
              have hR6 := HR6.out
              rw [← hxs2] at hR6
              rw [hxl2]
              obtain ⟨vk3, W8, hrun, hR8⟩ := hR6.growK (xs1.length : Int) (by omega) 30
              have HRUN := Lib.hid hrun
              have HR8 := Lib.hid hR8
              have HOX : Hid (∃ x2, xs2[xs1.length]? = some x2 ∧ x2.f1.length ≤ 10000000) := Lib.hid ⟨wrapN n.f0 [], by rw [hxs2, List.getElem?_append_right (Nat.le_refl _), Nat.sub_self]; rfl, Nat.zero_le _⟩
              clear hrun hR8 hR6 HR6 hxs2
              go_upto_region 19 with ((with_reducible refine gate_builtin (b := .append) (xs := #[.tmp 62, .tmp 64]) rfl ?_); at_builtin; refine wpList_plain rfl (fun K hK => op_append (.tmp 62) (.tmp 64) 30 rfl rfl rfl HRUN.out (hK _ _ ?_)); clear HRUN hK K)
              obtain ⟨ak, hAk, yk⟩ := HR8.out.kidAt HX.out
              injection hAk with hAk
              subst hAk
              obtain ⟨yo, ho⟩ := HR8.out.openK
              have hoz : ((xs1.length : Nat) : Int) < (xs2.length : Int) := by omega
              have y1 : W8.cell? ⟨S, 1, none⟩ = some (.slice (some ak) n.f1.length ck) := by rw [BlkIs.cell HR8.out.blk 1, List.getElem?_toArray]; exact HC1.out
              have lS := BlkIs.lt HR8.out.blk
              have lO := HR8.out.nds.lt
              have lk : (ak.add m).block < W8.heap.size := World.block_lt_of_cell? _ (ak.add m) yk
              have hal : Below W8.heap.size W8 (W8.drew.alloc (.cells #[.int .i64 (q : Int)] 3)) := ((Below.refl W8.heap.size W8).drew).alloc (Nat.le_refl _) _
              refine wp_onlyN ((wpIn_wide (n := 0)).1 ?_)
              refine beginU (fun V : World => (V.cell? ⟨S, 1, none⟩ = some (.slice (some ak) n.f1.length ck) ∧ V.cell? (ak.add m) = some (.int .i64 (q : Int))) ∧ V.cell? ⟨O2, xs1.length * 34 + 1, none⟩ = some (.slice none 0 0)) 13 (by kernel_rfl) ?_
              have HS : (fun V : World => (V.cell? ⟨S, 1, none⟩ = some (.slice (some ak) n.f1.length ck) ∧ V.cell? (ak.add m) = some (.int .i64 (q : Int))) ∧ V.cell? ⟨O2, xs1.length * 34 + 1, none⟩ = some (.slice none 0 0)) W8.drew := ⟨⟨y1, yk⟩, yo⟩
              have HS3 : (fun V : World => (V.cell? ⟨S, 1, none⟩ = some (.slice (some ak) n.f1.length ck) ∧ V.cell? (ak.add m) = some (.int .i64 (q : Int))) ∧ V.cell? ⟨O2, xs1.length * 34 + 1, none⟩ = some (.slice none 0 0)) (W8.drew.alloc (.cells #[.int .i64 (q : Int)] 3)) :=
                ⟨⟨(hal.cell (p := ⟨S, 1, none⟩) lS).trans y1, (hal.cell (p := ak.add m) lk).trans yk⟩, (hal.cell (p := ⟨O2, xs1.length * 34 + 1, none⟩) lO).trans yo⟩
              (refine takeP (i := 0) (d := 66) (v := ?_) rfl rfl (by kernel_rfl) (by kernel_rfl) (by kernel_rfl) (by kernel_rfl) (by kernel_rfl) (fun _ _ _ h => h) ⟨Or.inl ⟨by kernel_rfl, ?_⟩, fun _ => rfl⟩ (fun _ => HS) ?_; rotate_left; (focus (rintro wS -; go_simp; try (with_reducible rfl))); (simp only [List.setIfInBounds_toArray, List.set_cons_zero, List.set_cons_succ]))
              (refine takeP (i := 1) (d := 67) (v := ?_) rfl rfl (by kernel_rfl) (by kernel_rfl) (by kernel_rfl) (by kernel_rfl) (by kernel_rfl) (fun _ _ _ h => h) ⟨Or.inl ⟨by kernel_rfl, ?_⟩, fun _ => rfl⟩ (fun _ => HS) ?_; rotate_left; (focus (rintro wS -; go_simp; try (with_reducible rfl))); (simp only [List.setIfInBounds_toArray, List.set_cons_zero, List.set_cons_succ]))
              (refine takeP (i := 2) (d := 68) (v := ?_) rfl rfl (by kernel_rfl) (by kernel_rfl) (by kernel_rfl) (by kernel_rfl) (by kernel_rfl) (fun _ _ _ h => h) ⟨Or.inl ⟨by kernel_rfl, ?_⟩, fun _ => rfl⟩ (fun _ => HS) ?_; rotate_left; (focus (rintro wS -; go_simp; try (with_reducible rfl))); (simp only [List.setIfInBounds_toArray, List.set_cons_zero, List.set_cons_succ]))
              (refine takeP (i := 3) (d := 69) (v := ?_) rfl rfl (by kernel_rfl) (by kernel_rfl) (by kernel_rfl) (by kernel_rfl) (by kernel_rfl) (fun _ _ _ h => h) ⟨Or.inl ⟨by kernel_rfl, ?_⟩, fun _ => rfl⟩ (fun _ => HS) ?_; rotate_left; (focus (rintro wS -; go_simp; try (with_reducible rfl))); (simp only [List.setIfInBounds_toArray, List.set_cons_zero, List.set_cons_succ]))
              (refine takeP (i := 4) (d := 70) (v := ?_) rfl rfl (by kernel_rfl) (by kernel_rfl) (by kernel_rfl) (by kernel_rfl) (by kernel_rfl) (fun _ _ _ h => h) ⟨Or.inl ⟨by kernel_rfl, ?_⟩, fun _ => rfl⟩ (fun _ => HS) ?_; rotate_left; (focus (rintro wS -; go_simp; try (with_reducible rfl))); (simp only [List.setIfInBounds_toArray, List.set_cons_zero, List.set_cons_succ]))
              (refine takeP (i := 5) (d := 71) (v := ?_) rfl rfl (by kernel_rfl) (by kernel_rfl) (by kernel_rfl) (by kernel_rfl) (by kernel_rfl) (fun _ _ _ h => h) ⟨Or.inl ⟨by kernel_rfl, ?_⟩, fun _ => rfl⟩ (fun _ => HS) ?_; rotate_left; (focus (rintro wS -; go_simp; try (with_reducible rfl))); (simp only [List.setIfInBounds_toArray, List.set_cons_zero, List.set_cons_succ]))
              (refine takeU (i := 6) (d := 72) (v := ?_) rfl rfl (by kernel_rfl) (by kernel_rfl) (by kernel_rfl) (by kernel_rfl) (by kernel_rfl) (by kernel_rfl) (fun _ _ _ h => h) ⟨Or.inl ⟨by kernel_rfl, ?_⟩, fun _ => rfl⟩ HS ?_; rotate_left; (focus (rintro wS ⟨⟨s1, s2⟩, s3⟩; go_simp; try (with_reducible rfl))); (simp only [List.setIfInBounds_toArray, List.set_cons_zero, List.set_cons_succ]))
              (refine takeP (i := 7) (d := 73) (v := ?_) rfl rfl (by kernel_rfl) (by kernel_rfl) (by kernel_rfl) (by kernel_rfl) (by kernel_rfl) (fun _ _ _ h => h) ⟨Or.inl ⟨by kernel_rfl, ?_⟩, fun _ => rfl⟩ (fun _ => HS) ?_; rotate_left; (focus (rintro wS -; go_simp; try (with_reducible rfl))); (simp only [List.setIfInBounds_toArray, List.set_cons_zero, List.set_cons_succ]))
              (refine takeV (i := 8) (d := 74) (v := ?_) [13, 12, 11, 10] rfl rfl (by kernel_rfl) (by kernel_rfl) (by kernel_rfl) (by kernel_rfl) (by kernel_rfl) (fun _ _ _ h => h) ⟨Or.inl ⟨by kernel_rfl, ?_⟩, fun _ => rfl⟩ HS ?_; rotate_left; (focus (rintro wS ⟨⟨s1, s2⟩, s3⟩; go_simp; try (with_reducible rfl))); (simp only [List.setIfInBounds_toArray, List.set_cons_zero, List.set_cons_succ]))
              (refine takeP (i := 9) (d := 75) (v := ?_) rfl rfl (by kernel_rfl) (by kernel_rfl) (by kernel_rfl) (by kernel_rfl) (by kernel_rfl) (fun _ _ _ h => h) ⟨Or.inl ⟨by kernel_rfl, ?_⟩, fun _ => rfl⟩ (fun _ => HS) ?_; rotate_left; (focus (rintro wS -; go_simp; try (with_reducible rfl))); (simp only [List.setIfInBounds_toArray, List.set_cons_zero, List.set_cons_succ]))
              (refine takeP (i := 10) (d := 76) (v := ?_) rfl rfl (by kernel_rfl) (by kernel_rfl) (by kernel_rfl) (by kernel_rfl) (by kernel_rfl) (fun _ _ _ h => h) ⟨Or.inl ⟨by kernel_rfl, ?_⟩, fun _ => rfl⟩ (fun _ => HS) ?_; rotate_left; (focus (rintro wS -; go_simp; try (with_reducible rfl))); (simp only [List.setIfInBounds_toArray, List.set_cons_zero, List.set_cons_succ]))
              (refine takeV (i := 11) (d := 77) (v := ?_) [13, 12] rfl rfl (by kernel_rfl) (by kernel_rfl) (by kernel_rfl) (by kernel_rfl) (by kernel_rfl) (fun _ _ _ h => h) ⟨Or.inl ⟨by kernel_rfl, ?_⟩, fun _ => rfl⟩ HS ?_; rotate_left; (focus (rintro wS ⟨⟨s1, s2⟩, s3⟩; go_simp; try (with_reducible rfl))); (simp only [List.setIfInBounds_toArray, List.set_cons_zero, List.set_cons_succ]))
              (refine oneU (i := 12) rfl (by kernel_rfl) (fun K hK => ?_); go_simp)
              (refine hK _ _ ⟨(fun _ => HS3), ?_⟩; clear hK K; (try (simp only [List.setIfInBounds_toArray, List.set_cons_zero, List.set_cons_succ])))
              refine oneU (i := 13) rfl (by kernel_rfl) (fun K hK => ?_)
              obtain ⟨x2, hx2, hxl2⟩ := HOX.out
              obtain ⟨vo9, W9, hrun9, ⟨u9, hu9⟩, hf9, hl9, rows9, hR9⟩ := (HR8.out.below ((Below.refl _ W8).drew)).growO hx2 (q : Int) (by omega) 30
              refine if_of (by kernel_rfl) (opIn_wideW (by intro c h; cases h) (op_append (.tmp 72) (.tmp 78) 30 rfl rfl rfl hrun9 ?_))
              obtain ⟨x9, cs9, -, -, -, -, g9⟩ := hR9.cur xs1.length rfl
              obtain ⟨A9, cap9, hv9⟩ := Kd.R_slice g9
              have HX2 := Lib.hid hx2
              generalize x9.f1.length = N9 at hv9
              subst hv9
              have HR9 := Lib.hid hR9
              have HK9 := Lib.hid (And.intro hu9 (And.intro hf9 hl9))
              clear g9 HS HS3 hal hrun9 hR9 hu9 hf9 hl9 y1 yk yo lS lO lk
              (refine hK _ _ ⟨(no_more (by kernel_rfl)), ?_⟩; clear hK K; (try (simp only [List.setIfInBounds_toArray, List.set_cons_zero, List.set_cons_succ])))
              (refine oneU (i := 14) rfl (by kernel_rfl) (fun K hK => ?_); go_simp)
              (refine hK _ _ ⟨(no_more (by kernel_rfl)), ?_⟩; clear hK K; (try (simp only [List.setIfInBounds_toArray, List.set_cons_zero, List.set_cons_succ])))
              (refine oneU (i := 15) rfl (by kernel_rfl) (fun K hK => ?_); go_simp)
              (refine hK _ _ ⟨(no_more (by kernel_rfl)), ?_⟩; clear hK K; (try (simp only [List.setIfInBounds_toArray, List.set_cons_zero, List.set_cons_succ])))
              obtain ⟨hu9, hf9, hl9⟩ := HK9.out
              (refine oneU (i := 16) rfl (by kernel_rfl) (fun K hK => ?_); go_simp)
              (refine hK _ _ ⟨(no_more (by kernel_rfl)), ?_⟩; clear hK K; (try (simp only [List.setIfInBounds_toArray, List.set_cons_zero, List.set_cons_succ])))
              (refine doneU (by kernel_rfl) ?_ _)
              simp only [onlyN, Exit.then]
              go_wp2
              go_roundw
              case rel =>
                have hst : refStep n (ks, xs1, none) (q : Int) = (ks ++ [(xs1.length : Int)], xs2.set xs1.length { x2 with f1 := x2.f1 ++ [(q : Int)] }, some xs1.length) := by
                  have e2 : x2 = wrapN n.f0 [] := by
                    have := HX2.out
                    rw [HXS.out, List.getElem?_append_right (Nat.le_refl _), Nat.sub_self] at this
                    exact (Option.some.inj this).symm
                  unfold refStep
                  dsimp only
                  rw [HK.out.1, HK.out.2, if_neg (by decide), HXS.out, List.set_append_right _ _ (Nat.le_refl _), Nat.sub_self, e2]
                  rfl
                exact ⟨m + 1, O2, cap2, ks ++ [(xs1.length : Int)], xs2.set xs1.length { x2 with f1 := x2.f1 ++ [(q : Int)] }, some xs1.length, by rw [List.length_set], rfl, by go_num, by omega, ⟨by rw [HFS.out, hst]⟩, ⟨_, _, HR9.out⟩⟩
              case measure => simp [intOf]; omega
            | some o =>
              have ho0 : ¬ ((o : Int) < 0) := by omega
              have hod : decide ((o : Int) < 0) = false := decide_eq_false ho0
              simp only [opI]
              have HOX : Hid (∃ x2, xs1[o]? = some x2 ∧ x2.f1.length ≤ 10000000) := Lib.hid (by obtain ⟨x2, h1, h2⟩ := HOP.out o rfl; exact ⟨x2, h1, by omega⟩)
              go_wp2
              go_quiet (first | (go_at_call 12; (with_reducible refine (HMAY.out _).mono ?_); rintro e w' ⟨rfl, ⟨nd, rfl⟩⟩; (try first | exact ⟨rfl, _, World.drewN_drewN _ _ _⟩ | exact ⟨rfl, _, Eq.trans (World.drewN_drewN _ _ _) (congrArg (World.drewN _) (Nat.add_assoc _ _ _))⟩)))
              have HR2 := Lib.hid (HR1.out.below (pw_below_drewN (Below.refl _ _) nq))
              clear HR1 y0 y1 yk yq lS HMAY
              generalize wr.drewN nq = W2 at HR2 ⊢
              go_upto_region 19 with fail
              obtain ⟨ak, hAk, yk⟩ := HR2.out.kidAt HX.out
              injection hAk with hAk
              subst hAk
              obtain ⟨yo, ho⟩ := HR2.out.openK
              have hoz : ((o : Nat) : Int) < (xs1.length : Int) := by omega
              have y1 : W2.cell? ⟨S, 1, none⟩ = some (.slice (some ak) n.f1.length ck) := by rw [BlkIs.cell HR2.out.blk 1, List.getElem?_toArray]; exact HC1.out
              have lS := BlkIs.lt HR2.out.blk
              have lO := HR2.out.nds.lt
              have lk : (ak.add m).block < W2.heap.size := World.block_lt_of_cell? _ (ak.add m) yk
              have hal : Below W2.heap.size W2 (W2.drew.alloc (.cells #[.int .i64 (q : Int)] 3)) := ((Below.refl W2.heap.size W2).drew).alloc (Nat.le_refl _) _
              refine wp_onlyN ((wpIn_wide (n := 0)).1 ?_)
              refine beginU (fun V : World => (V.cell? ⟨S, 1, none⟩ = some (.slice (some ak) n.f1.length ck) ∧ V.cell? (ak.add m) = some (.int .i64 (q : Int))) ∧ V.cell? ⟨O1, o * 34 + 1, none⟩ = some vo) 13 (by kernel_rfl) ?_
              have HS : (fun V : World => (V.cell? ⟨S, 1, none⟩ = some (.slice (some ak) n.f1.length ck) ∧ V.cell? (ak.add m) = some (.int .i64 (q : Int))) ∧ V.cell? ⟨O1, o * 34 + 1, none⟩ = some vo) W2.drew := ⟨⟨y1, yk⟩, yo⟩
              have HS3 : (fun V : World => (V.cell? ⟨S, 1, none⟩ = some (.slice (some ak) n.f1.length ck) ∧ V.cell? (ak.add m) = some (.int .i64 (q : Int))) ∧ V.cell? ⟨O1, o * 34 + 1, none⟩ = some vo) (W2.drew.alloc (.cells #[.int .i64 (q : Int)] 3)) :=
                ⟨⟨(hal.cell (p := ⟨S, 1, none⟩) lS).trans y1, (hal.cell (p := ak.add m) lk).trans yk⟩, (hal.cell (p := ⟨O1, o * 34 + 1, none⟩) lO).trans yo⟩
              (refine takeP (i := 0) (d := 66) (v := ?_) rfl rfl (by kernel_rfl) (by kernel_rfl) (by kernel_rfl) (by kernel_rfl) (by kernel_rfl) (fun _ _ _ h => h) ⟨Or.inl ⟨by kernel_rfl, ?_⟩, fun _ => rfl⟩ (fun _ => HS) ?_; rotate_left; (focus (rintro wS -; go_simp; try (with_reducible rfl))); (simp only [List.setIfInBounds_toArray, List.set_cons_zero, List.set_cons_succ]))
              (refine takeP (i := 1) (d := 67) (v := ?_) rfl rfl (by kernel_rfl) (by kernel_rfl) (by kernel_rfl) (by kernel_rfl) (by kernel_rfl) (fun _ _ _ h => h) ⟨Or.inl ⟨by kernel_rfl, ?_⟩, fun _ => rfl⟩ (fun _ => HS) ?_; rotate_left; (focus (rintro wS -; go_simp; try (with_reducible rfl))); (simp only [List.setIfInBounds_toArray, List.set_cons_zero, List.set_cons_succ]))
              (refine takeP (i := 2) (d := 68) (v := ?_) rfl rfl (by kernel_rfl) (by kernel_rfl) (by kernel_rfl) (by kernel_rfl) (by kernel_rfl) (fun _ _ _ h => h) ⟨Or.inl ⟨by kernel_rfl, ?_⟩, fun _ => rfl⟩ (fun _ => HS) ?_; rotate_left; (focus (rintro wS -; go_simp; try (with_reducible rfl))); (simp only [List.setIfInBounds_toArray, List.set_cons_zero, List.set_cons_succ]))
              (refine takeP (i := 3) (d := 69) (v := ?_) rfl rfl (by kernel_rfl) (by kernel_rfl) (by kernel_rfl) (by kernel_rfl) (by kernel_rfl) (fun _ _ _ h => h) ⟨Or.inl ⟨by kernel_rfl, ?_⟩, fun _ => rfl⟩ (fun _ => HS) ?_; rotate_left; (focus (rintro wS -; go_simp; try (with_reducible rfl))); (simp only [List.setIfInBounds_toArray, List.set_cons_zero, List.set_cons_succ]))
              (refine takeP (i := 4) (d := 70) (v := ?_) rfl rfl (by kernel_rfl) (by kernel_rfl) (by kernel_rfl) (by kernel_rfl) (by kernel_rfl) (fun _ _ _ h => h) ⟨Or.inl ⟨by kernel_rfl, ?_⟩, fun _ => rfl⟩ (fun _ => HS) ?_; rotate_left; (focus (rintro wS -; go_simp; try (with_reducible rfl))); (simp only [List.setIfInBounds_toArray, List.set_cons_zero, List.set_cons_succ]))
              (refine takeP (i := 5) (d := 71) (v := ?_) rfl rfl (by kernel_rfl) (by kernel_rfl) (by kernel_rfl) (by kernel_rfl) (by kernel_rfl) (fun _ _ _ h => h) ⟨Or.inl ⟨by kernel_rfl, ?_⟩, fun _ => rfl⟩ (fun _ => HS) ?_; rotate_left; (focus (rintro wS -; go_simp; try (with_reducible rfl))); (simp only [List.setIfInBounds_toArray, List.set_cons_zero, List.set_cons_succ]))
              (refine takeU (i := 6) (d := 72) (v := ?_) rfl rfl (by kernel_rfl) (by kernel_rfl) (by kernel_rfl) (by kernel_rfl) (by kernel_rfl) (by kernel_rfl) (fun _ _ _ h => h) ⟨Or.inl ⟨by kernel_rfl, ?_⟩, fun _ => rfl⟩ HS ?_; rotate_left; (focus (rintro wS ⟨⟨s1, s2⟩, s3⟩; go_simp; try (with_reducible rfl))); (simp only [List.setIfInBounds_toArray, List.set_cons_zero, List.set_cons_succ]))
              (refine takeP (i := 7) (d := 73) (v := ?_) rfl rfl (by kernel_rfl) (by kernel_rfl) (by kernel_rfl) (by kernel_rfl) (by kernel_rfl) (fun _ _ _ h => h) ⟨Or.inl ⟨by kernel_rfl, ?_⟩, fun _ => rfl⟩ (fun _ => HS) ?_; rotate_left; (focus (rintro wS -; go_simp; try (with_reducible rfl))); (simp only [List.setIfInBounds_toArray, List.set_cons_zero, List.set_cons_succ]))
              (refine takeV (i := 8) (d := 74) (v := ?_) [13, 12, 11, 10] rfl rfl (by kernel_rfl) (by kernel_rfl) (by kernel_rfl) (by kernel_rfl) (by kernel_rfl) (fun _ _ _ h => h) ⟨Or.inl ⟨by kernel_rfl, ?_⟩, fun _ => rfl⟩ HS ?_; rotate_left; (focus (rintro wS ⟨⟨s1, s2⟩, s3⟩; go_simp; try (with_reducible rfl))); (simp only [List.setIfInBounds_toArray, List.set_cons_zero, List.set_cons_succ]))
              (refine takeP (i := 9) (d := 75) (v := ?_) rfl rfl (by kernel_rfl) (by kernel_rfl) (by kernel_rfl) (by kernel_rfl) (by kernel_rfl) (fun _ _ _ h => h) ⟨Or.inl ⟨by kernel_rfl, ?_⟩, fun _ => rfl⟩ (fun _ => HS) ?_; rotate_left; (focus (rintro wS -; go_simp; try (with_reducible rfl))); (simp only [List.setIfInBounds_toArray, List.set_cons_zero, List.set_cons_succ]))
              (refine takeP (i := 10) (d := 76) (v := ?_) rfl rfl (by kernel_rfl) (by kernel_rfl) (by kernel_rfl) (by kernel_rfl) (by kernel_rfl) (fun _ _ _ h => h) ⟨Or.inl ⟨by kernel_rfl, ?_⟩, fun _ => rfl⟩ (fun _ => HS) ?_; rotate_left; (focus (rintro wS -; go_simp; try (with_reducible rfl))); (simp only [List.setIfInBounds_toArray, List.set_cons_zero, List.set_cons_succ]))
              (refine takeV (i := 11) (d := 77) (v := ?_) [13, 12] rfl rfl (by kernel_rfl) (by kernel_rfl) (by kernel_rfl) (by kernel_rfl) (by kernel_rfl) (fun _ _ _ h => h) ⟨Or.inl ⟨by kernel_rfl, ?_⟩, fun _ => rfl⟩ HS ?_; rotate_left; (focus (rintro wS ⟨⟨s1, s2⟩, s3⟩; go_simp; try (with_reducible rfl))); (simp only [List.setIfInBounds_toArray, List.set_cons_zero, List.set_cons_succ]))
              (refine oneU (i := 12) rfl (by kernel_rfl) (fun K hK => ?_); go_simp)
              (refine hK _ _ ⟨(fun _ => HS3), ?_⟩; clear hK K; (try (simp only [List.setIfInBounds_toArray, List.set_cons_zero, List.set_cons_succ])))
              refine oneU (i := 13) rfl (by kernel_rfl) (fun K hK => ?_)
              obtain ⟨x2, hx2, hxl2⟩ := HOX.out
              obtain ⟨vo9, W9, hrun9, ⟨u9, hu9⟩, hf9, hl9, rows9, hR9⟩ := (HR2.out.below ((Below.refl _ W2).drew)).growO hx2 (q : Int) (by omega) 30
              refine if_of (by kernel_rfl) (opIn_wideW (by intro c h; cases h) (op_append (.tmp 72) (.tmp 78) 30 rfl rfl rfl hrun9 ?_))
              obtain ⟨x9, cs9, -, -, -, -, g9⟩ := hR9.cur o rfl
              obtain ⟨A9, cap9, hv9⟩ := Kd.R_slice g9
              have HX2 := Lib.hid hx2
              generalize x9.f1.length = N9 at hv9
              subst hv9
              have HR9 := Lib.hid hR9
              have HK9 := Lib.hid (And.intro hu9 (And.intro hf9 hl9))
              clear g9 HS HS3 hal hrun9 hR9 hu9 hf9 hl9 y1 yk yo lS lO lk
              (refine hK _ _ ⟨(no_more (by kernel_rfl)), ?_⟩; clear hK K; (try (simp only [List.setIfInBounds_toArray, List.set_cons_zero, List.set_cons_succ])))
              (refine oneU (i := 14) rfl (by kernel_rfl) (fun K hK => ?_); go_simp)
              (refine hK _ _ ⟨(no_more (by kernel_rfl)), ?_⟩; clear hK K; (try (simp only [List.setIfInBounds_toArray, List.set_cons_zero, List.set_cons_succ])))
              (refine oneU (i := 15) rfl (by kernel_rfl) (fun K hK => ?_); go_simp)
              (refine hK _ _ ⟨(no_more (by kernel_rfl)), ?_⟩; clear hK K; (try (simp only [List.setIfInBounds_toArray, List.set_cons_zero, List.set_cons_succ])))
              obtain ⟨hu9, hf9, hl9⟩ := HK9.out
              (refine oneU (i := 16) rfl (by kernel_rfl) (fun K hK => ?_); go_simp)
              (refine hK _ _ ⟨(no_more (by kernel_rfl)), ?_⟩; clear hK K; (try (simp only [List.setIfInBounds_toArray, List.set_cons_zero, List.set_cons_succ])))
              (refine doneU (by kernel_rfl) ?_ _)
              simp only [onlyN, Exit.then]
              go_wp2
              go_roundw
              case rel =>
                have hst : refStep n (ks, xs1, some o) (q : Int) = (ks, xs1.set o { x2 with f1 := x2.f1 ++ [(q : Int)] }, some o) := by
                  unfold refStep
                  dsimp only
                  rw [HK.out.1, HK.out.2, if_neg (by decide), show xs1.getD o z43 = x2 by rw [List.getD_eq_getElem?_getD, HX2.out]; rfl]
                exact ⟨m + 1, O1, cap1, ks, xs1.set o { x2 with f1 := x2.f1 ++ [(q : Int)] }, some o, by rw [List.length_set], rfl, by go_num, by omega, ⟨by rw [HFS.out, hst]⟩, ⟨_, _, HR9.out⟩⟩
              case measure => simp [intOf]; omega
          · go_wp2
            go_quiet (first | (go_at_call 12; (with_reducible refine (HMAY.out _).mono ?_); rintro e w' ⟨rfl, ⟨nd, rfl⟩⟩; (try first | exact ⟨rfl, _, World.drewN_drewN _ _ _⟩ | exact ⟨rfl, _, Eq.trans (World.drewN_drewN _ _ _) (congrArg (World.drewN _) (Nat.add_assoc _ _ _))⟩)))
            have HR2 := Lib.hid (HR1.out.below (pw_below_drewN (Below.refl _ _) nq))
            clear HR1 y0 y1 yk yq lS HMAY
            generalize wr.drewN nq = W2 at HR2 ⊢
            obtain ⟨vk1, W4, hrun, hR3⟩ := HR2.out.growK (q : Int) (by omega) 30
            obtain ⟨ak', hAk, yk⟩ := HR2.out.kidAt HX.out
            injection hAk with hAk
            subst hAk
            have y1 : W2.cell? ⟨S, 1, none⟩ = some (.slice (some ak) n.f1.length ck) := by rw [BlkIs.cell HR2.out.blk 1, List.getElem?_toArray]; exact HC1.out
            have HR4 := Lib.hid hR3.close
            have HRUN := Lib.hid hrun
            clear hrun hR3 HR2
            go_wp2_with ((with_reducible refine gate_builtin (b := .append) (xs := #[.tmp 42, .tmp 48]) rfl ?_); at_builtin; refine wpList_plain rfl (fun K hK => op_append (.tmp 42) (.tmp 48) 30 rfl rfl rfl HRUN.out (hK _ _ ?_)); clear HRUN hK K y1 yk)
            go_roundw
            case rel => exact ⟨m + 1, O1, cap1, ks ++ [(q : Int)], xs1, none, rfl, rfl, by go_num, by omega, ⟨by rw [HFS.out]; unfold refStep; dsimp only; rw [HK.out.1, if_pos HK.out.2]⟩, ⟨_, _, HR4.out⟩⟩
            case measure => simp [intOf]; omega
        · have hme : m = n.f1.length := by omega
          subst hme
          obtain ⟨vo, rows1, hR⟩ := HR.out
          have hr : ∀ x ∈ n.f1, 0 ≤ x ∧ x < (xs.length : Int) := fun x hx => by
            have := HST.out.kid n (List.mem_of_getElem? hn1) x hx
            omega
          have hall := HFO.out
          rw [List.take_length] at hall
          have hnode := ref_node hn1 hr
          rw [hall] at hnode
          obtain ⟨o', e⟩ := ref_grp (grpsN_grp xs n) hr [] [] none (fun _ _ _ => rfl)
          rw [List.append_nil, hall] at e
          have hxs1 : xs1 = xs ++ newN n.f0 (grpsN xs n) := by
            have := congrArg (fun s => s.2.1) e
            exact this
          have hn2 : xs1[i]? = some n := by rw [hxs1, List.getElem?_append_left hlt]; exact hn1
          have hi1 : i < xs1.length := by omega
          have hi1z : (i : Int) < (xs1.length : Int) := by omega
          obtain ⟨rows', hN9, hB9, ⟨u9, hu9⟩, hf9, hl9⟩ := hR.done hn2
          obtain ⟨Av, cv, hv⟩ := Kd.R_slice hR.kd
          generalize ks.length = N9 at hv
          have HN9 := Lib.hid hN9
          have HB9 := Lib.hid hB9
          have HND := Lib.hid hnode
          obtain ⟨k', rfl⟩ : ∃ k', k = k' + 1 := ⟨k - 1, by omega⟩
          have hgo2 : fixGo k' (i + 1) (nodeStep xs i) = fixP l0 := by
            have := HGO.out
            rw [fixGo, if_pos hlt] at this
            exact this
          have hst2 := HST.out.step hlt
          dsimp only at hnode
          rw [← hnode] at hgo2 hst2
          have HG2 := Lib.hid hgo2
          have HS2 := Lib.hid hst2
          have y1 : wr.cell? ⟨S, 1, none⟩ = some (.slice Ak n.f1.length ck) := by rw [BlkIs.cell hR.blk 1, List.getElem?_toArray]; exact HC1.out
          have lS := BlkIs.lt hR.blk
          clear hN9 hB9 hR HR HFO hall hnode e hxs1 hgo2 hst2 HND
          subst hv
          go_wp2
          go_roundw
          case rel => exact ⟨i + 1, k', O1, cap1, xs1.set i { n with f1 := ks }, by rw [List.length_set], by go_num, by omega, by rw [List.length_set]; omega, ⟨HG2.out⟩, ⟨HS2.out⟩, ⟨_, HN9.out⟩, ⟨HB9.out⟩⟩
          case measure => simp [intOf]; omega
    · have hie : i = xs.length := by omega
      subst hie
      obtain ⟨rows, hI⟩ := HI.out
      have hp := hI.page
      have e := HGO.out
      rw [fixGo_end] at e
      rw [e] at hp
      have hel := congrArg List.length e
      rw [hel]
      have HP := Lib.hid hp
      clear hI hp HI
      go_wp2
      go_ret
      exact ⟨some ⟨O, 0, none⟩, cap, by first | rfl | simp [results], HP.out.1, HP.out.2, HB.out⟩
end Go.Proofs.Ytjhpkikgajgdmaa.K
