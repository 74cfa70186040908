/- Layer 4: the same nodes; the reference's Computed. -/
import Derived.Test.YtjhpkikgajgdmaaTrI
import Derived.Test.YtjhpkikgajgdmaaTrA
import Derived.Test.YtjhpkikgajgdmaaStEs
import Derived.Test.YtjhpkikgajgdmaaTrB
import Derived.Test.YtjhpkikgajgdmaaTrGc
import Derived.Test.YtjhpkikgajgdmaaSt6
import Derived.Test.YtjhpkikgajgdmaaTrU
namespace Go.Proofs.Ytjhpkikgajgdmaa.K
open Go.RowKit Go.Proofs.YtjhpkikgajgdmaaW.PrintWords Go.Proofs.YtjhpkikgajgdmaaW.PrintLast Go.Proofs.YtjhpkikgajgdmaaW.PrintMore
set_option linter.unusedVariables false
set_option linter.unusedSimpArgs false
attribute [local go_sem] Oper.semAt_some

set_option maxRecDepth 100000 in
set_option maxHeartbeats 8000000 in
theorem samenode_any (n : Nd) (ca cb : List Value) (A1 : Option Addr) (c1 : Nat) (A3 : Option Addr) (c3 : Nat) (B1 : Option Addr) (d1 : Nat) (B3 : Option Addr) (d3 : Nat) (w : World) (hbig : n.f1.length < 1000000000) (hA : NodeC w n ca A1 c1 A3 c3) (hB : NodeC w n cb B1 d1 B3 d3) :
    Calls Try.prog 34 #[.agg ca.toArray, .agg cb.toArray] w fun e w' => e = .returned (.bool true) ∧ Below w.heap.size w w' := by
  have HB : Hid (BoxC w ((w.alloc (.cells ca.toArray 43)).alloc (.cells cb.toArray 43)) n w.heap.size A1 c1 A3 c3) := Lib.hid ((BoxC.of hA 43).below ((Below.refl _ _).alloc (Nat.le_refl _) _))
  have HD : Hid (BoxC (w.alloc (.cells ca.toArray 43)) ((w.alloc (.cells ca.toArray 43)).alloc (.cells cb.toArray 43)) n (w.alloc (.cells ca.toArray 43)).heap.size B1 d1 B3 d3) := Lib.hid (BoxC.of ⟨hB.len, hB.one, hB.k0, hB.k1, hB.sty, hB.k31, hB.k32, hB.k33, Kd.C_alloc hB.w3 _, hB.l3, Kd.C_alloc hB.w1 _, hB.l1⟩ 43)
  have HK1 : Hid (Kd.C (Kd.int .i64) ((w.alloc (.cells ca.toArray 43)).alloc (.cells cb.toArray 43)) A1 n.f1.length n.f1 ∧ n.f1.length ≤ c1) := Lib.hid ⟨Kd.C_alloc (Kd.C_alloc hA.w1 _) _, hA.l1⟩
  have HK2 : Hid (Kd.C (Kd.int .i64) ((w.alloc (.cells ca.toArray 43)).alloc (.cells cb.toArray 43)) B1 n.f1.length n.f1 ∧ n.f1.length ≤ d1) := Lib.hid ⟨Kd.C_alloc (Kd.C_alloc hB.w1 _) _, hB.l1⟩
  have HL3 := Lib.hid (And.intro hA.l3 hB.l3)
  have hb3 : n.f3.length ≤ 9223372036854775807 := hA.w3.2.1
  have hlen : (Try.prog.info? 40).map (·.size) = some (styN n.f2).cells.toList.length := by kernel_rfl
  have HLen := Lib.hid hlen
  have HLB := Lib.hid hbig
  clear hA hB hlen hbig
  rw [World.size_alloc] at HD
  go_enter Try.func34, Try.ntmps34
  go_upto_region 1 with fail
  generalize (w.alloc (.cells ca.toArray 43)).alloc (.cells cb.toArray 43) = W0 at HB HD HK1 HK2 ⊢
  generalize w.heap.size + 1 = M at HD ⊢
  have k31 := HB.out.k31
  have j31 := HD.out.k31
  have lt := HB.out.lt
  have lt2 := HD.out.lt
  have h30 : ((n.f3.length : Int) != (n.f3.length : Int)) = false := by simp
  go_wp2
  go_loopw [5] (fun i wr => ∃ j : Nat, j ≤ n.f3.length ∧ i = .int .i64 j ∧ Aside0 (Below W0.heap.size W0 wr)) (fun i _ => n.f3.length - (intOf i).toNat)
  case atStart => exact ⟨0, Nat.zero_le _, rfl, ⟨Below.refl _ _⟩⟩
  case round =>
    obtain ⟨j, hj, rfl, HR⟩ := hrel
    have HBr := Lib.hid (HB.out.below HR.out)
    have HDr := Lib.hid (HD.out.below HR.out)
    have HK1r := Lib.hid (And.intro (Kd.C_below HK1.out.1 HR.out) HK1.out.2)
    have HK2r := Lib.hid (And.intro (Kd.C_below HK2.out.1 HR.out) HK2.out.2)
    clear k31 j31 lt lt2 HB HD HK1 HK2
    have k31 := HBr.out.k31
    have j31 := HDr.out.k31
    have lt := HBr.out.lt
    have lt2 := HDr.out.lt
    by_cases hlt : j < n.f3.length
    · have hltz : (j : Int) < (n.f3.length : Int) := by omega
      obtain ⟨x, hx⟩ : ∃ x, n.f3[j]? = some x := ⟨_, List.getElem?_eq_getElem hlt⟩
      obtain ⟨ar, hAr, hcells⟩ := HBr.out.w3.2.2 (by omega)
      obtain ⟨cc, hcl, hK, hcell⟩ := hcells j x hx
      obtain rfl : cc = [.int .i64 x] := hK
      have hx0 : wr.cell? (ar.add j) = some (.int .i64 x) := by have h := hcell 0 _ rfl; rwa [show ((Kd.int .i64).sz) = 1 from rfl, Nat.mul_one] at h
      subst hAr
      clear hcells hcell hcl
      obtain ⟨br, hBr, hcells⟩ := HDr.out.w3.2.2 (by omega)
      obtain ⟨cc, hcl, hK, hcell⟩ := hcells j x hx
      obtain rfl : cc = [.int .i64 x] := hK
      have hy0 : wr.cell? (br.add j) = some (.int .i64 x) := by have h := hcell 0 _ rfl; rwa [show ((Kd.int .i64).sz) = 1 from rfl, Nat.mul_one] at h
      subst hBr
      clear hcells hcell hcl hx HBr HDr HK1r HK2r
      have hne : (x != x) = false := by simp
      go_wp2
      go_quiet (fail)
      go_wp2
      go_roundw
      case rel => exact ⟨j + 1, by omega, by go_num, ⟨pw_below_drewN HR.out _⟩⟩
      case measure => simp [intOf]; omega
    · have hjl : j = n.f3.length := by omega
      subst hjl
      have HBW := Lib.hid (below_then HBr.out.b HBr.out.b.size (Below.refl _ _))
      have HBB : Hid (Below w.heap.size w wr) := HBW
      have HI : Hid (Calls Try.prog 17 #[.slice A1 n.f1.length c1, .slice B1 n.f1.length d1] wr fun e w' => e = .returned (.bool true) ∧ Below wr.heap.size wr w') := Lib.hid (ints_same rfl (by have := HK1r.out.1.2.1; have := HLB.out; omega) A1 c1 B1 d1 wr HK1r.out.1 HK1r.out.2 HK2r.out.1 HK2r.out.2)
      have k1 := HBr.out.k1
      have j1 := HDr.out.k1
      go_upto_region 9 with (go_at_call 17; (with_reducible refine (HI.out).mono ?_); rintro e w1 ⟨rfl, hb⟩; have HX := Lib.hid (HBr.out.below hb); have HY := Lib.hid (HDr.out.below hb); have HZ := Lib.hid (below_then HBB.out HBB.out.size hb); clear hb HBr HDr HK1r HK2r HBB HBW HI k31 j31 k1 j1 lt lt2)
      have k0 := HX.out.k0
      have j0 := HY.out.k0
      have k32 := HX.out.k32
      have j32 := HY.out.k32
      have k33 := HX.out.k33
      have j33 := HY.out.k33
      have lt := HX.out.lt
      have lt2 := HY.out.lt
      have hq := sty_refl (styN n.f2)
      have hn0 : (n.f0 == n.f0) = true := by simp
      have hn4 : (n.f4 == n.f4) = true := by simp
      have hn5 : (n.f5 == n.f5) = true := by simp
      go_wp2_with (first | ((with_reducible refine gate_dst (N := 47) rfl ?_); (try (refine gate_guard (by rfl) ?_; dsimp only)); refine wpList_load_mid rfl 40 (.tmp 46) rfl w.heap.size 2 rfl (styN n.f2).cells.toList _ HX.out.sty Try.underlying40 rfl HLen.out ?_) | ((with_reducible refine gate_dst (N := 49) rfl ?_); (try (refine gate_guard (by rfl) ?_; dsimp only)); refine wpList_load_mid rfl 40 (.tmp 48) rfl M 2 rfl (styN n.f2).cells.toList _ HY.out.sty Try.underlying40 rfl HLen.out ?_))
      go_ret
      exact ⟨rfl, HZ.out⟩

set_option maxRecDepth 100000 in
set_option maxHeartbeats 8000000 in
theorem same_any (l : List Nd) (A B : Option Addr) (c d : Nat) (w : World) (hA : Kd.C k43 w A l.length l) (hB : Kd.C k43 w B l.length l) (hc : l.length ≤ c) (hd : l.length ≤ d) (hbig : ∀ n ∈ l, n.f1.length < 1000000000) :
    Calls Try.prog 22 #[.slice A l.length c, .slice B l.length d] w fun e w' => e = .returned (.bool true) ∧ Below w.heap.size w w' := by
  obtain ⟨CA, hCA⟩ := nodesAt_of hA
  obtain ⟨CB, hCB⟩ := nodesAt_of hB
  have HA := Lib.hid hCA
  have HB := Lib.hid hCB
  have HBIG := Lib.hid hbig
  have hl9 := hA.2.1
  clear hA hB hCA hCB hbig
  have hn : ((l.length : Int) != (l.length : Int)) = false := by simp
  go_enter Try.func22, Try.ntmps22
  go_wp2
  go_loopw [5, 6] (fun i _ wr => ∃ j : Nat, j ≤ l.length ∧ i = .int .i64 j ∧ Aside0 (Below w.heap.size w wr)) (fun i _ _ => l.length - (intOf i).toNat)
  case atStart => exact ⟨0, Nat.zero_le _, rfl, ⟨Below.refl _ _⟩⟩
  case round =>
    obtain ⟨j, hj, rfl, HR⟩ := hrel
    by_cases hlt : j < l.length
    · have hltz : (j : Int) < (l.length : Int) := by omega
      obtain ⟨x, hx⟩ : ∃ x, l[j]? = some x := ⟨_, List.getElem?_eq_getElem hlt⟩
      obtain ⟨ad, hAa, hla, -, hca, hKa⟩ := (HA.out.below HR.out) j x hx
      obtain ⟨bd, hBa, hlb, -, hcb, hKb⟩ := (HB.out.below HR.out) j x hx
      obtain ⟨A1, c1, A3, c3, hna⟩ := nodeC_of hKa
      obtain ⟨B1, d1, B3, d3, hnb⟩ := nodeC_of hKb
      have hlda : ∀ q v, (CA j)[q]? = some v → wr.cell? ((ad.add (j * 34)).add q) = some v := fun q v hv => by rw [add_add]; exact hca q v hv
      have hldb : ∀ q v, (CB j)[q]? = some v → wr.cell? ((bd.add (j * 34)).add q) = some v := fun q v hv => by rw [add_add]; exact hcb q v hv
      have hia : (Try.prog.info? 43).map (·.size) = some (CA j).length := by rw [hla]; kernel_rfl
      have hib : (Try.prog.info? 43).map (·.size) = some (CB j).length := by rw [hlb]; kernel_rfl
      have HN := Lib.hid (fun W (hb : Below wr.heap.size wr W) => samenode_any x (CA j) (CB j) A1 c1 A3 c3 B1 d1 B3 d3 W (HBIG.out x (List.mem_of_getElem? hx)) (hna.below hb) (hnb.below hb))
      have HLA := Lib.hid hlda
      have HLB := Lib.hid hldb
      subst hAa hBa
      clear hx hKa hKb hca hcb hna hnb hla hlb hlda hldb
      go_upto_region 6 with fail
      refine (wpIn_wide (n := 0)).1 ?_
      refine beginH (fun V : World => (∀ q v, (CA j)[q]? = some v → V.cell? ((ad.add (j * 34)).add q) = some v) ∧ (∀ q v, (CB j)[q]? = some v → V.cell? ((bd.add (j * 34)).add q) = some v)) (by kernel_rfl) ?_
      have HS : (fun V : World => (∀ q v, (CA j)[q]? = some v → V.cell? ((ad.add (j * 34)).add q) = some v) ∧ (∀ q v, (CB j)[q]? = some v → V.cell? ((bd.add (j * 34)).add q) = some v)) wr.drew := ⟨HLA.out, HLB.out⟩
      (refine takeD (i := 0) (d := 18) (v := ?_) rfl rfl (by kernel_rfl) (by kernel_rfl) (by kernel_rfl) (by kernel_rfl) (fun _ _ _ h => h) ⟨Or.inl ⟨by kernel_rfl, ?_⟩, fun _ => rfl⟩ HS ?_; rotate_left; (focus (rintro wS ⟨s1, s2⟩; go_simp; try (with_reducible rfl))); (simp only [List.setIfInBounds_toArray, List.set_cons_zero, List.set_cons_succ]))
      (refine takeD (i := 1) (d := 19) (v := ?_) rfl rfl (by kernel_rfl) (by kernel_rfl) (by kernel_rfl) (by kernel_rfl) (fun _ _ _ h => h) ⟨Or.inl ⟨by kernel_rfl, ?_⟩, fun _ => rfl⟩ HS ?_; rotate_left; (focus (rintro wS ⟨s1, s2⟩; go_simp; try (with_reducible rfl))); (simp only [List.setIfInBounds_toArray, List.set_cons_zero, List.set_cons_succ]))
      (refine takeD (i := 2) (d := 20) (v := ?_) rfl rfl (by kernel_rfl) (by kernel_rfl) (by kernel_rfl) (by kernel_rfl) (fun _ _ _ h => h) ⟨Or.inl ⟨by kernel_rfl, ?_⟩, fun _ => rfl⟩ HS ?_; rotate_left; (focus (rintro wS ⟨s1, s2⟩; go_simp; try (with_reducible rfl))); (simp only [List.setIfInBounds_toArray, List.set_cons_zero, List.set_cons_succ]))
      (refine takeD (i := 3) (d := 21) (v := .agg (CA j).toArray) rfl rfl (by kernel_rfl) (by kernel_rfl) (by kernel_rfl) (by kernel_rfl) (fun _ _ _ h => h) ⟨yieldsIf_load_any (by kernel_rfl) 43 _ rfl _ rfl (CA j) _ (fun w h => h.1) Try.underlying43 rfl hia, fun _ => rfl⟩ HS ?_; (simp only [List.setIfInBounds_toArray, List.set_cons_zero, List.set_cons_succ]))
      (refine takeD (i := 4) (d := 22) (v := ?_) rfl rfl (by kernel_rfl) (by kernel_rfl) (by kernel_rfl) (by kernel_rfl) (fun _ _ _ h => h) ⟨Or.inl ⟨by kernel_rfl, ?_⟩, fun _ => rfl⟩ HS ?_; rotate_left; (focus (rintro wS ⟨s1, s2⟩; go_simp; try (with_reducible rfl))); (simp only [List.setIfInBounds_toArray, List.set_cons_zero, List.set_cons_succ]))
      (refine takeD (i := 5) (d := 23) (v := ?_) rfl rfl (by kernel_rfl) (by kernel_rfl) (by kernel_rfl) (by kernel_rfl) (fun _ _ _ h => h) ⟨Or.inl ⟨by kernel_rfl, ?_⟩, fun _ => rfl⟩ HS ?_; rotate_left; (focus (rintro wS ⟨s1, s2⟩; go_simp; try (with_reducible rfl))); (simp only [List.setIfInBounds_toArray, List.set_cons_zero, List.set_cons_succ]))
      (refine takeD (i := 6) (d := 24) (v := ?_) rfl rfl (by kernel_rfl) (by kernel_rfl) (by kernel_rfl) (by kernel_rfl) (fun _ _ _ h => h) ⟨Or.inl ⟨by kernel_rfl, ?_⟩, fun _ => rfl⟩ HS ?_; rotate_left; (focus (rintro wS ⟨s1, s2⟩; go_simp; try (with_reducible rfl))); (simp only [List.setIfInBounds_toArray, List.set_cons_zero, List.set_cons_succ]))
      (refine takeD (i := 7) (d := 25) (v := .agg (CB j).toArray) rfl rfl (by kernel_rfl) (by kernel_rfl) (by kernel_rfl) (by kernel_rfl) (fun _ _ _ h => h) ⟨yieldsIf_load_any (by kernel_rfl) 43 _ rfl _ rfl (CB j) _ (fun w h => h.2) Try.underlying43 rfl hib, fun _ => rfl⟩ HS ?_; (simp only [List.setIfInBounds_toArray, List.set_cons_zero, List.set_cons_succ]))
      (refine oneH (i := 8) rfl (by kernel_rfl) (fun K hK => ?_); go_simp)
      refine (callsIn_wide.2 (HN.out _ ((Below.refl _ wr).drew))).mono ?_
      rintro e V3 ⟨rfl, hbel⟩
      dsimp only
      have HB3 := Lib.hid (below_then HR.out HR.out.size (((Below.refl _ wr).drew).trans hbel))
      have HS2 : (fun V : World => (∀ q v, (CA j)[q]? = some v → V.cell? ((ad.add (j * 34)).add q) = some v) ∧ (∀ q v, (CB j)[q]? = some v → V.cell? ((bd.add (j * 34)).add q) = some v)) V3 := ⟨fun q v hv => (hbel.cell (World.block_lt_of_cell? _ _ (HS.1 q v hv))).trans (HS.1 q v hv), fun q v hv => (hbel.cell (World.block_lt_of_cell? _ _ (HS.2 q v hv))).trans (HS.2 q v hv)⟩
      (refine hK _ _ ⟨HS2, ?_⟩; clear hK K; (try simp only [Act.put, List.setIfInBounds_toArray, List.set_cons_zero, List.set_cons_succ]))
      (refine takeD (i := 9) (d := 6) (v := ?_) rfl rfl (by kernel_rfl) (by kernel_rfl) (by kernel_rfl) (by kernel_rfl) (fun _ _ _ h => h) ⟨Or.inl ⟨by kernel_rfl, ?_⟩, fun _ => rfl⟩ HS2 ?_; rotate_left; (focus (rintro wS ⟨s1, s2⟩; go_simp; try (with_reducible rfl))); (simp only [List.setIfInBounds_toArray, List.set_cons_zero, List.set_cons_succ]))
      (refine doneH (by kernel_rfl) ?_ _)
      clear HS HS2 hbel hia hib HN HLA HLB
      go_wp2
      go_roundw
      case rel => exact ⟨j + 1, by omega, by go_num, ⟨HB3.out⟩⟩
      case measure => simp [intOf]; omega
    · have hjl : j = l.length := by omega
      subst hjl
      go_wp2
      go_ret
      exact ⟨rfl, HR.out⟩
end Go.Proofs.Ytjhpkikgajgdmaa.K
namespace Go.Proofs.Ytjhpkikgajgdmaa.K
open Go.RowKit Go.Proofs.YtjhpkikgajgdmaaW.PrintWords Go.Proofs.YtjhpkikgajgdmaaW.PrintLast Go.Proofs.YtjhpkikgajgdmaaW.PrintMore
set_option linter.unusedVariables false
set_option linter.unusedSimpArgs false
attribute [local go_sem] Oper.semAt_some

def compV (x : Nd) (cs : List Value) : List Value := cs.take 2 ++ (styC (styN x.f2)).cells.toList ++ cs.drop 31
theorem compV_K {w : World} {x : Nd} {cs : List Value} (h : k43.K w x cs) : k43.K w (compN x) (compV x cs) := by
  obtain ⟨A1, c1, A3, c3, hcs, h1, h2, h3, h4⟩ := k43_open h
  rw [hcs]
  exact k43_mk w (compN x) (A1 := A1) (c1 := c1) h1 h2 (A31 := A3) (c31 := c3) h3 h4
theorem comp_read {w W : World} {A : Option Addr} {CS : Nat → List Value} {l : List Nd} {A1 : Option Addr} (hCS : NodesAt w A CS l) (hb : Below w.heap.size w W)
    (h : Kd.C (Kd.raw 34) W A1 ((List.range l.length).map (fun i => compV (l.getD i z43) (CS i))).length ((List.range l.length).map (fun i => compV (l.getD i z43) (CS i)))) : ((List.range l.length).map (fun i => compV (l.getD i z43) (CS i))).length = (compP l).length ∧ Kd.C k43 W A1 (compP l).length (compP l) := by
  have hlen : ((List.range l.length).map (fun i => compV (l.getD i z43) (CS i))).length = (compP l).length := by unfold compP; rw [List.length_map, List.length_map, List.length_range]
  refine ⟨hlen, c_of_raw hlen h (fun q x c hx hc => ?_)⟩
  unfold compP at hx
  rw [List.getElem?_map] at hx hc
  obtain ⟨y, hy, rfl⟩ := Option.map_eq_some_iff.1 hx
  obtain ⟨i, hi, rfl⟩ := Option.map_eq_some_iff.1 hc
  have hq : i = q := by
    obtain ⟨h1, h2⟩ := List.getElem?_eq_some_iff.1 hi
    rw [List.getElem_range] at h2; exact h2.symm
  subst hq
  obtain ⟨ad, hA, h1, h2, h3, h4⟩ := (hCS.below hb) i y hy
  have e : l.getD i z43 = y := by rw [List.getD_eq_getElem?_getD, hy]; rfl
  rw [e]
  exact compV_K h4

theorem grown_setCells (W : World) (b o : Nat) (vs : List Value) : W.grownBy (W.setCells b o vs) (some b) := by
  obtain ⟨s1, s2, s3, s4⟩ := setCells_same b vs o W
  exact ⟨s1, s2, s3, by rw [s4]; exact Nat.le_refl _, fun k _ hk => setCells_far vs o k (fun he => hk (by rw [he]))⟩
theorem blkIs_below {W V : World} {b t : Nat} {cs : Array Value} (h : BlkIs W b t cs) (hb : Below W.heap.size W V) : BlkIs V b t cs := (hb.block b (BlkIs.lt h)).trans h
theorem blkIs_seg {W : World} {b t : Nat} {cs : List Value} (h : BlkIs W b t cs.toArray) (q : Nat) (seg : List Value) (hq : q + seg.length ≤ cs.length) : BlkIs (W.setCells b q seg) b t (cs.take q ++ seg ++ cs.drop (q + seg.length)).toArray := by
  obtain ⟨cur', h1, h2, h3⟩ := setCells_row seg q W cs.toArray h (by simpa using hq)
  have e : cur' = (cs.take q ++ seg ++ cs.drop (q + seg.length)).toArray := by rw [← h3]
  rw [← e]
  exact h1
theorem there_of {W : World} {b t : Nat} {cs : List Value} (h : BlkIs W b t cs.toArray) (q n : Nat) (hq : q + n ≤ cs.length) : W.there b q n := fun j hj => by
  have hlt : q + j < cs.length := by omega
  rw [BlkIs.cell h (q + j), List.getElem?_toArray, List.getElem?_eq_getElem hlt]
  exact ⟨rfl, BlkIs.frozen h (q + j)⟩
theorem zS_eq : (#[.int .i64 0, .int .i64 0, .int .i64 0, .int .i64 0, .int .i64 0, .int .i64 0, .int .i64 0, .int .i64 0, .int .i64 0, .int .i64 0, .int .u32 0, .int .i64 0, .int .i64 0, .int .u32 0, .int .i64 0, .int .i64 0, .int .u32 0, .int .i64 0, .int .i64 0, .int .u32 0, .int .i64 0, .int .i64 0, .int .i64 0, .bool false, .bool false, .int .i64 0, .int .i64 0, .bool false, .bool false] : Array Value) = zeroSty.cells := rfl

set_option maxRecDepth 100000 in
set_option maxHeartbeats 1500000 in
theorem rcomp_own (A : Option Addr) (c : Nat) (l : List Nd) (w : World) (CS : Nat → List Value) (hCS : NodesAt w A CS l) (hc : l.length ≤ c) (hbig : l.length ≤ 100000) (hv : ∀ n ∈ l, validB (styN n.f2) = true) :
    Calls Try.prog 35 #[.slice A l.length c] w fun e w' => ∃ A1 c1, e = .returned (.slice A1 l.length c1) ∧ Kd.R (Kd.raw 34) 43 w' w.heap.size (fun _ => True) (.slice A1 l.length c1) ((List.range l.length).map (fun i => compV (l.getD i z43) (CS i))) ∧ Below w.heap.size w w' := by
  have HCS := Lib.hid hCS
  have HC := Lib.hid hc
  have HV := Lib.hid hv
  clear hCS hc hv
  go_enter Try.func35, Try.ntmps35
  go_wp2
  go_loopw [3, 4, 6] (fun v i _ wr => ∃ j : Nat, j ≤ l.length ∧ i = .int .i64 j ∧ Aside0 (Kd.R (Kd.raw 34) 43 wr w.heap.size (fun _ => True) v ((List.range j).map (fun i => compV (l.getD i z43) (CS i)))) ∧ Aside0 (Below w.heap.size w wr)) (fun _ i _ _ => l.length - (intOf i).toNat)
  case atStart => exact ⟨0, Nat.zero_le _, rfl, ⟨Kd.R_nil _ _ _ _ _⟩, ⟨Below.refl _ _⟩⟩
  case round =>
    obtain ⟨j, hj, rfl, HR, HB⟩ := hrel
    by_cases hlt : j < l.length
    · have hltz : (j : Int) < (l.length : Int) := by omega
      have hda : decide ((j : Int) < (l.length : Int)) = true := decide_eq_true hltz
      obtain ⟨x, hx⟩ : ∃ x, l[j]? = some x := ⟨_, List.getElem?_eq_getElem hlt⟩
      obtain ⟨ad, hA, hlen, hone, hcells, hKk⟩ := HCS.out.below HB.out j x hx
      obtain ⟨A1, c1, A3, c3, hnc⟩ := nodeC_of hKk
      have hVK := compV_K hKk
      have hS := HV.out x (List.mem_of_getElem? hx)
      have HST := Lib.hid (fun W => rcomputed_yes (styN x.f2) W hS)
      have HNS := Lib.hid hnc.sty
      have HVL := Lib.hid (And.intro (k43.K_len hVK) (k43.K_one hVK))
      have HE := Lib.hid (show (List.range (j + 1)).map (fun i => compV (l.getD i z43) (CS i)) = (List.range j).map (fun i => compV (l.getD i z43) (CS i)) ++ [compV x (CS j)] by
        rw [List.range_succ, List.map_append, List.map_singleton, show l.getD j z43 = x by rw [List.getD_eq_getElem?_getD, hx]; rfl])
      have hld : ∀ q v, (CS j)[q]? = some v → wr.cell? ((ad.add (j * 34)).add q) = some v := fun q v hv => by rw [add_add]; exact hcells q v hv
      have hinfo : (Try.prog.info? 43).map (·.size) = some (CS j).length := by rw [hlen]; kernel_rfl
      have hinfo2 : (Try.prog.info? 43).map (·.size) = some (CS j).toArray.size := by rw [List.size_toArray]; exact hinfo
      have hall : (CS j).toArray.all (·.oneCell') = true := all_oneCell_toArray hone
      have HLN := Lib.hid hlen
      subst hA
      clear hx hKk hone hcells hnc hlen hVK hS
      have hT : ∀ Z : Array Value, Z.size = 34 → World.there (wr.alloc (.cells Z 43)) wr.heap.size 0 (CS j).toArray.size := fun Z hZ => Blk.there (Blk.new wr 43 Z) _ (by rw [List.size_toArray, HLN.out, hZ]; exact Nat.le_refl _)
      go_upto_region 5 with fail
      go_upto_region 6 with (first | (refine wpList_load_any rfl 43 _ rfl _ rfl (CS j) _ hld Try.underlying43 rfl hinfo ?_) | (refine wpList_store_mid rfl 43 _ _ rfl wr.heap.size 0 ((CS j).toArray) rfl rfl (hT _ rfl) hinfo2 hall ?_))
      have hzv : (#[.int .i64 0, .slice none 0 0, .int .i64 0, .int .i64 0, .int .i64 0, .int .i64 0, .int .i64 0, .int .i64 0, .int .i64 0, .int .i64 0, .int .i64 0, .int .i64 0, .int .u32 0, .int .i64 0, .int .i64 0, .int .u32 0, .int .i64 0, .int .i64 0, .int .u32 0, .int .i64 0, .int .i64 0, .int .u32 0, .int .i64 0, .int .i64 0, .int .i64 0, .bool false, .bool false, .int .i64 0, .int .i64 0, .bool false, .bool false, .slice none 0 0, .int .i64 0, .int .i64 0] : Array Value) = zN := rfl
      rw [hzv]
      obtain ⟨hBk, hBw⟩ := filled_new wr 43 zN (CS j) (by rw [HLN.out]; rfl)
      generalize (wr.alloc (.cells zN 43)).setCells wr.heap.size 0 (CS j) = W3 at hBk hBw ⊢
      have hwr : w.heap.size ≤ wr.heap.size := HB.out.size
      have HR3 := Aside0.mk (Kd.R_below HR.out hBw)
      have HB3 := Aside0.mk (below_then HB.out HB.out.size hBw)
      have HBK := Aside0.mk hBk
      have hvn : ∀ q, u3.ownBlock = some q → q < wr.heap.size := fun q hq => by obtain ⟨cells, hc⟩ := own_typed HR.out.2.choose_spec.1 q hq; exact (Array.getElem?_eq_some_iff.1 hc).1
      have HVN := Lib.hid hvn
      generalize wr.heap.size = N at HBK hwr HVN ⊢
      clear hBk hBw hzv hT hld hinfo hinfo2 hall HR HB hvn
      have hrng : W3.rangeAt N 2 (styN x.f2).cells.toList := fun q v hq => by
        rw [BlkIs.cell HBK.out (2 + q), List.getElem?_toArray]; exact HNS.out q v hq
      have hlenS : (Try.prog.info? 40).map (·.size) = some (styN x.f2).cells.toList.length := by kernel_rfl
      have hlenT : (Try.prog.info? 40).map (·.size) = some (styC (styN x.f2)).cells.size := by kernel_rfl
      have hlenU : (Try.prog.info? 40).map (·.size) = some (styC (styN x.f2)).cells.toList.length := by kernel_rfl
      have hone2 := sty_one (styC (styN x.f2))
      have HT1 : Hid (∀ (V : World) (Z : Array Value), Z.size = 29 → World.there (V.alloc (.cells Z 40)) V.heap.size 0 (styC (styN x.f2)).cells.size) := Lib.hid (fun V Z hZ => Blk.there (Blk.new V 40 Z) _ (by rw [hZ]; exact Nat.le_refl 29))
      go_upto_region 7 with (first | (refine wpList_load_mid rfl 40 (.tmp 19) rfl N 2 rfl (styN x.f2).cells.toList _ hrng Try.underlying40 rfl hlenS ?_) | (go_at_call 46; refine (HST.out _).mono ?_; rintro e w4 ⟨rfl, hb⟩; have HBK4 := Lib.hid (blkIs_below HBK.out hb); have HR4 := Lib.hid (Kd.R_below HR3.out hb); have HB4 := Lib.hid (below_then HB3.out HB3.out.size hb); have hN4 : N < w4.heap.size := BlkIs.lt HBK4.out; clear hb HBK HR3 HB3 hrng) | (refine wpList_store_mid rfl 40 _ _ rfl w4.heap.size 0 ((styC (styN x.f2)).cells) rfl rfl ?hth hlenT hone2 ?_; (case hth => exact HT1.out _ _ rfl)))
      rw [zS_eq]
      obtain ⟨hBm, hBw⟩ := filled_new w4 40 zeroSty.cells (styC (styN x.f2)).cells.toList rfl
      have HBK5 := Lib.hid (blkIs_below HBK4.out hBw)
      have HR5 := Lib.hid (Kd.R_below HR4.out hBw)
      have HB5 := Lib.hid (below_then HB4.out HB4.out.size hBw)
      generalize (w4.alloc (.cells zeroSty.cells 40)).setCells w4.heap.size 0 (styC (styN x.f2)).cells.toList = W5 at hBm HBK5 HR5 HB5 ⊢
      generalize w4.heap.size = M at hBm hN4 ⊢
      have HBM := Lib.hid hBm
      have hrngM : W5.rangeAt M 0 (styC (styN x.f2)).cells.toList := fun q v hq => by
        rw [Nat.zero_add, BlkIs.cell HBM.out q, List.getElem?_toArray]; exact hq
      have hTN : W5.there N 2 (styC (styN x.f2)).cells.size := there_of HBK5.out 2 29 (by rw [HLN.out]; decide)
      clear hBm hBw HBK4 HR4 HB4 HT1 HNS hlenS HST
      go_upto_region 8 with (first | (refine wpList_load_mid rfl 40 (.tmp 6) rfl M 0 rfl (styC (styN x.f2)).cells.toList _ hrngM Try.underlying40 rfl hlenU ?_) | (refine wpList_store_mid rfl 40 _ _ rfl N 2 ((styC (styN x.f2)).cells) rfl rfl hTN hlenT hone2 ?_))
      have HBK6 := Lib.hid (blkIs_seg HBK5.out 2 (styC (styN x.f2)).cells.toList (by rw [HLN.out]; exact (show 2 + 29 ≤ 34 by decide)))
      have hgr := grown_setCells W5 N 2 (styC (styN x.f2)).cells.toList
      have HR6 := Lib.hid (Kd.R_grown2 HR5.out rfl hgr (fun k hk e => by injection hk with hk; subst hk; have := HVN.out N e.symm; omega))
      have HB6 := Lib.hid (HB5.out.grown hgr HB5.out.size (fun k hk => by injection hk with hk; omega))
      have HBK7 : Hid (BlkIs (W5.setCells N 2 (styC (styN x.f2)).cells.toList) N 43 (compV x (CS j)).toArray) := HBK6
      generalize W5.setCells N 2 (styC (styN x.f2)).cells.toList = W4 at HBK7 HR6 HB6 ⊢
      clear HBK6 HBK5 HR5 HB5 HBM hrngM hTN hgr hlenT hlenU hone2 hN4
      have hsl : ((List.range j).map (fun i => compV (l.getD i z43) (CS i))).length ≤ 100000 := by simp; omega
      generalize (List.range j).map (fun i => compV (l.getD i z43) (CS i)) = rows at HR6 HE hsl
      have hvl := HVL.out.1
      have hvi : (Try.prog.info? 43).map (·.size) = some (compV x (CS j)).length := by rw [hvl]; kernel_rfl
      have hld : ∀ q v, (compV x (CS j))[q]? = some v → W4.cell? ((⟨N, 0, none⟩ : Addr).add q) = some v := fun q v hv => by
        rw [add_at, Nat.zero_add, BlkIs.cell HBK7.out q, List.getElem?_toArray]; exact hv
      have HM := Lib.hid HVL.out
      clear HVL HBK7 hvl
      generalize compV x (CS j) = cs at hvi hld HM HE ⊢
      have hlc : cs.length = 34 := HM.out.1
      have hzv : (#[.int .i64 0, .slice none 0 0, .int .i64 0, .int .i64 0, .int .i64 0, .int .i64 0, .int .i64 0, .int .i64 0, .int .i64 0, .int .i64 0, .int .i64 0, .int .i64 0, .int .u32 0, .int .i64 0, .int .i64 0, .int .u32 0, .int .i64 0, .int .i64 0, .int .u32 0, .int .i64 0, .int .i64 0, .int .u32 0, .int .i64 0, .int .i64 0, .int .i64 0, .bool false, .bool false, .int .i64 0, .int .i64 0, .bool false, .bool false, .slice none 0 0, .int .i64 0, .int .i64 0] : Array Value) = zN := rfl
      have HF := Lib.hid (fold_node cs hlc)
      have HZ := Lib.hid hzv
      clear hzv
      go_wp2_with (first | (refine wpList_load_any rfl 43 _ rfl ⟨N, 0, none⟩ rfl cs _ hld Try.underlying43 rfl hvi ?_) | ((with_reducible refine gate_builtin (b := .append) (xs := #[.tmp 26, .tmp 28]) rfl ?_); at_builtin; rw [HZ.out, HF.out]; refine Kd.R_append (Kd.raw 34) (w0 := w) w.heap.size rfl (.tmp 26) (.tmp 28) 25 43 (.agg zN) 288 rfl Try.underlying25 info43 rfl (by decide) (by omega) u3 rows cs cs (fun _ => True) (fun _ => False) rfl rfl ⟨rfl, HM.out⟩ (fun _ hk => hk.elim) (fun _ _ => trivial) HR6.out HB6.out HB6.out.size (by omega) ?_; intro v1 w1 ho1 hb1 hg1 hat1; rw [← HE.out] at ho1; have HR7 := Aside0.mk ho1; have HB7 := Aside0.mk hb1; clear ho1 hb1 hg1 hat1 HR6 HB6 hld hsl))
      go_roundw
      case rel => exact ⟨j + 1, by omega, by go_num, HR7, HB7⟩
      case measure => simp [intOf]; omega
    · have hltz : ¬ (j : Int) < (l.length : Int) := by omega
      have hda : decide ((j : Int) < (l.length : Int)) = false := decide_eq_false hltz
      have hjl : j = l.length := by omega
      subst hjl
      obtain ⟨A1, c1, hv⟩ := Kd.R_slice HR.out
      rw [show ((List.range l.length).map (fun i => compV (l.getD i z43) (CS i))).length = l.length by rw [List.length_map, List.length_range]] at hv
      subst hv
      go_wp2
      go_ret
      exact ⟨A1, c1, rfl, HR.out, HB.out⟩
theorem rcomp_any (A : Option Addr) (c : Nat) (l : List Nd) (w : World) (hN : Kd.C k43 w A l.length l) (hc : l.length ≤ c) (hbig : l.length ≤ 100000) (hv : ∀ n ∈ l, validB (styN n.f2) = true) :
    Calls Try.prog 35 #[.slice A l.length c] w fun e w' => ∃ A1 c1, e = .returned (.slice A1 (compP l).length c1) ∧ (compP l).length ≤ c1 ∧ Kd.C k43 w' A1 (compP l).length (compP l) ∧ Below w.heap.size w w' := by
  obtain ⟨CS, hCS⟩ := nodesAt_of hN
  refine (rcomp_own A c l w CS hCS hc hbig hv).mono ?_
  rintro e w' ⟨A1, c1, rfl, hR, hB⟩
  have hl := (Kd.R_reads' hR).2.1
  obtain ⟨q1, q2⟩ := comp_read hCS hB (by have := (Kd.R_reads' hR).2.2; exact this)
  have hcl : (compP l).length = l.length := by unfold compP; rw [List.length_map]
  exact ⟨A1, c1, by rw [hcl], by rw [hcl]; exact hl, q2, hB⟩
end Go.Proofs.Ytjhpkikgajgdmaa.K
namespace Go.Proofs.Ytjhpkikgajgdmaa.K
open Go.RowKit Go.Proofs.YtjhpkikgajgdmaaW.PrintWords Go.Proofs.YtjhpkikgajgdmaaW.PrintLast Go.Proofs.YtjhpkikgajgdmaaW.PrintMore
set_option linter.unusedVariables false
set_option linter.unusedSimpArgs false
attribute [local go_sem] Oper.semAt_some

theorem same_page {l : List Nd} {n : Nat} (hn : l.length = n) (hbig : ∀ n ∈ l, n.f1.length < 1000000000) (A B : Option Addr) (c d : Nat) (w : World) (hA : Kd.C k43 w A n l) (hB : Kd.C k43 w B n l) (hc : n ≤ c) (hd : n ≤ d) :
    Calls Try.prog 22 #[.slice A n c, .slice B n d] w fun e w' => e = .returned (.bool true) ∧ Below w.heap.size w w' := by
  subst hn
  exact same_any l A B c d w hA hB hc hd hbig
theorem comp_len (l : List Nd) : (compP l).length = l.length := List.length_map _
theorem comp_kids {l : List Nd} {b : Nat} (h : ∀ n ∈ l, n.f1.length ≤ b) : ∀ n ∈ compP l, n.f1.length ≤ b := fun n hn => by
  obtain ⟨m, hm, rfl⟩ := List.mem_map.1 hn
  exact h m hm
theorem rcomp_page {l : List Nd} {n : Nat} (hn : l.length = n) (hbig : n ≤ 100000) (hv : ∀ n ∈ l, validB (styN n.f2) = true) (A : Option Addr) (c : Nat) (w : World) (hN : Kd.C k43 w A n l) (hc : n ≤ c) :
    Calls Try.prog 35 #[.slice A n c] w fun e w' => ∃ A1 c1, e = .returned (.slice A1 n c1) ∧ n ≤ c1 ∧ Kd.C k43 w' A1 n (compP l) ∧ Below w.heap.size w w' := by
  subst hn
  have h := rcomp_any A c l w hN hc hbig hv
  rw [comp_len] at h
  exact h
theorem right_valid {x : Nd} (h : rightN x = true) : validB (styN x.f2) = true := by
  rw [show rightN x = (headB x && x.f3.all lengthB && lengthB x.f4 && lengthB x.f5 && (if x.f0 = 1 then decide (x.f1.length = 0) else if x.f0 = 5 then decide (x.f1.length = 0) && bareB x else bareB x)) from rfl] at h
  cases q : headB x
  · rw [q] at h; simp at h
  · unfold headB at q
    simp only [Bool.and_eq_true, decide_eq_true_eq] at q
    exact q.1.2
end Go.Proofs.Ytjhpkikgajgdmaa.K
