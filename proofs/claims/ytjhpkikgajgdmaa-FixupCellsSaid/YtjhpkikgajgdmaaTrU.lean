/- Layer 4: the laws' cut. -/
import Derived.Test.YtjhpkikgajgdmaaTrB
import Derived.Test.YtjhpkikgajgdmaaTrA
namespace Go.Proofs.Ytjhpkikgajgdmaa.K
open Go.RowKit Go.Proofs.YtjhpkikgajgdmaaW.PrintWords Go.Proofs.YtjhpkikgajgdmaaW.PrintLast Go.Proofs.YtjhpkikgajgdmaaW.PrintMore
set_option linter.unusedVariables false
set_option linter.unusedSimpArgs false
attribute [local go_sem] Oper.semAt_some

theorem mn_le (n : Nat) (c : Int) (hc : 0 ≤ c) : (0 ≤ mn (n : Int) c ∧ mn (n : Int) c ≤ n ∧ mn (n : Int) c ≤ c) := by
  unfold mn; split <;> omega
def cutN (n : Nd) : Nd := { n with f1 := n.f1.take (mn (n.f1.length : Int) 30).toNat, f3 := n.f3.take (mn (n.f3.length : Int) 40).toNat }
def cutS (k : Nat) : Value → Value
  | .slice A n c => .slice A (if k < n then k else n) c
  | v => v
def cutV (cs : List Value) : List Value := (cs.set 1 (cutS 30 (cs.getD 1 undef))).set 31 (cutS 40 (cs.getD 31 undef))
theorem cut_len (n k : Nat) (xs : List Int) (h : xs.length = n) : (xs.take (mn (n : Int) (k : Int)).toNat).length = if k < n then k else n := by
  rw [List.length_take, h]
  unfold mn
  split <;> split <;> omega
theorem c_take {w : World} {A : Option Addr} {xs : List Int} (h : Kd.C (Kd.int .i64) w A xs.length xs) (k : Nat) : Kd.C (Kd.int .i64) w A (xs.take k).length (xs.take k) := by
  refine ⟨rfl, ?_, fun hp => ?_⟩
  · have := h.2.1; rw [List.length_take]; omega
  · have hp' : 0 < (xs.take k).length := hp
    rw [List.length_take] at hp'
    obtain ⟨ad, hA, hc⟩ := h.2.2 (by omega)
    refine ⟨ad, hA, fun j p hj => hc j p ?_⟩
    rw [List.getElem?_take] at hj
    split at hj
    · exact hj
    · cases hj
theorem cutV_K {w : World} {x : Nd} {cs : List Value} (h : k43.K w x cs) : k43.K w (cutN x) (cutV cs) := by
  obtain ⟨A1, c1, A3, c3, hcs, h1, h2, h3, h4⟩ := k43_open h
  have e1 := cut_len x.f1.length 30 x.f1 rfl
  have e3 := cut_len x.f3.length 40 x.f3 rfl
  have := k43_mk w (cutN x) (A1 := A1) (c1 := c1) (show (x.f1.take (mn (x.f1.length : Int) 30).toNat).length ≤ c1 by rw [List.length_take]; omega) (c_take h2 _) (A31 := A3) (c31 := c3) (show (x.f3.take (mn (x.f3.length : Int) 40).toNat).length ≤ c3 by rw [List.length_take]; omega) (c_take h4 _)
  have hl1 : (cutN x).f1.length = if 30 < x.f1.length then 30 else x.f1.length := e1
  have hl3 : (cutN x).f3.length = if 40 < x.f3.length then 40 else x.f3.length := e3
  rw [hl1, hl3] at this
  rw [hcs]
  exact this
def cutL (l : List Nd) : List Nd := (l.take 150).map cutN
/-- rows that were copied read as the elements do -/
theorem c_of_raw {w : World} {A : Option Addr} {rows : List (List Value)} {xs : List Nd} (hl : rows.length = xs.length) (h : Kd.C (Kd.raw 34) w A rows.length rows) (hk : ∀ (j : Nat) (x : Nd) (c : List Value), xs[j]? = some x → rows[j]? = some c → k43.K w x c) : Kd.C k43 w A xs.length xs := by
  refine ⟨rfl, by have := h.2.1; omega, fun hp => ?_⟩
  obtain ⟨ad, hA, hc⟩ := h.2.2 (by omega)
  refine ⟨ad, hA, fun j p hj => ?_⟩
  have hlt := (List.getElem?_eq_some_iff.1 hj).1
  obtain ⟨c, hcj⟩ : ∃ c, rows[j]? = some c := ⟨_, List.getElem?_eq_getElem (by omega)⟩
  obtain ⟨cs, hcl, hK, hcell⟩ := hc j c hcj
  obtain ⟨rfl, -, -⟩ := hK
  exact ⟨cs, hcl, hk j p cs hj hcj, hcell⟩

theorem cut_read {w W : World} {A : Option Addr} {CS : Nat → List Value} {l : List Nd} {A1 : Option Addr} {j : Nat} (hCS : NodesAt w A CS l) (hb : Below w.heap.size w W) (hj : j = min 150 l.length)
    (h : Kd.C (Kd.raw 34) W A1 ((List.range j).map (fun i => cutV (CS i))).length ((List.range j).map (fun i => cutV (CS i)))) : ((List.range j).map (fun i => cutV (CS i))).length = (cutL l).length ∧ Kd.C k43 W A1 (cutL l).length (cutL l) := by
  have hlen : ((List.range j).map (fun i => cutV (CS i))).length = (cutL l).length := by unfold cutL; rw [List.length_map, List.length_map, List.length_range, List.length_take, hj]
  refine ⟨hlen, c_of_raw hlen h (fun q x c hx hc => ?_)⟩
  unfold cutL at hx
  rw [List.getElem?_map] at hx hc
  obtain ⟨y, hy, rfl⟩ := Option.map_eq_some_iff.1 hx
  obtain ⟨i, hi, rfl⟩ := Option.map_eq_some_iff.1 hc
  rw [List.getElem?_take] at hy
  have hq : i = q := by
    have := List.getElem?_eq_some_iff.1 hi
    obtain ⟨h1, h2⟩ := this
    rw [List.getElem_range] at h2; exact h2.symm
  subst hq
  split at hy
  · obtain ⟨ad, hA, h1, h2, h3, h4⟩ := (hCS.below hb) i y hy
    exact cutV_K h4
  · cases hy

/-- a node that is appended: its cells, in a box of its own -/
theorem fold_zip : ∀ (cs pre post : List Value), post.length = cs.length → (cs.zipIdx pre.length).foldl (fun a x => a.setIfInBounds x.2 x.1) (pre ++ post).toArray = (pre ++ cs).toArray
  | [], pre, post, h => by
    have : post = [] := List.eq_nil_of_length_eq_zero h
    subst this; rfl
  | c :: cs, pre, [], h => by simp at h
  | c :: cs, pre, p :: post, h => by
    rw [List.zipIdx_cons, List.foldl_cons]
    have e : (pre ++ p :: post).toArray.setIfInBounds pre.length c = ((pre ++ [c]) ++ post).toArray := by
      rw [List.setIfInBounds_toArray, List.set_append_right _ _ (Nat.le_refl _), Nat.sub_self, List.set_cons_zero, List.append_assoc]; rfl
    have hl : (pre ++ [c]).length = pre.length + 1 := by simp
    show List.foldl _ ((pre ++ p :: post).toArray.setIfInBounds pre.length c) _ = _
    rw [e, ← hl, fold_zip cs (pre ++ [c]) post (by simpa using h), List.append_assoc]; rfl
theorem fold_node (cs : List Value) (h : cs.length = 34) : cs.zipIdx.foldl (fun a x => a.setIfInBounds x.2 x.1) zN = cs.toArray := by
  have := fold_zip cs [] zN.toList (by rw [h]; rfl)
  rw [List.nil_append, List.nil_append] at this
  exact this

def cutRows (CS : Nat → List Value) (n : Nat) : List (List Value) := (List.range (min 150 n)).map (fun i => cutV (CS i))
theorem cutRows_eq {CS : Nat → List Value} {n j : Nat} (h : j = min 150 n) : (List.range j).map (fun i => cutV (CS i)) = cutRows CS n := by rw [h]; rfl
set_option maxRecDepth 100000 in
set_option maxHeartbeats 4000000 in
theorem cut_rows (A : Option Addr) (c : Nat) (l : List Nd) (w : World) (hbig : l.length ≤ 9223372036854775807) (CS : Nat → List Value) (hCS : NodesAt w A CS l) (hc : l.length ≤ c) :
    Calls Try.prog 16 #[.slice A l.length c] w fun e w' => ∃ v : Value, e = .returned v ∧ Kd.R (Kd.raw 34) 43 w' w.heap.size (fun _ => True) v (cutRows CS l.length) ∧ Below w.heap.size w w' := by
  have HCS := Lib.hid hCS
  have HC := Lib.hid hc
  clear hCS hc
  obtain ⟨i3, hi3, _, hsz3, _⟩ := info_parts info3
  obtain ⟨i2, hi2, _, hsz2, _⟩ := info_parts info2
  have HI3 := Lib.hid (And.intro hi3 hsz3)
  have HI2 := Lib.hid (And.intro hi2 hsz2)
  clear hi3 hsz3 hi2 hsz2
  go_enter Try.func16, Try.ntmps16
  go_wp2
  go_loopw [3, 4] (fun v i wr => ∃ j : Nat, j ≤ l.length ∧ j ≤ 150 ∧ i = .int .i64 j ∧ Aside0 (Kd.R (Kd.raw 34) 43 wr w.heap.size (fun _ => True) v ((List.range j).map (fun i => cutV (CS i)))) ∧ Aside0 (Below w.heap.size w wr)) (fun _ i _ => l.length - (intOf i).toNat)
  case atStart => exact ⟨0, Nat.zero_le _, Nat.zero_le _, rfl, ⟨Kd.R_nil _ _ _ _ _⟩, ⟨Below.refl _ _⟩⟩
  case round =>
    obtain ⟨j, hj, hj2, rfl, HR, HB⟩ := hrel
    by_cases hlt : j < l.length
    · by_cases hlt2 : j < 150
      · have hltz : (j : Int) < (l.length : Int) := by omega
        have hltz2 : (j : Int) < 150 := by omega
        have hda : decide ((j : Int) < (l.length : Int)) = true := decide_eq_true hltz
        have hdb : decide ((j : Int) < 150) = true := decide_eq_true hltz2
        obtain ⟨x, hx⟩ : ∃ x, l[j]? = some x := ⟨_, List.getElem?_eq_getElem hlt⟩
        obtain ⟨ad, hA, hlen, hone, hcells, hKk⟩ := HCS.out.below HB.out j x hx
        obtain ⟨A1, c1, A3, c3, hnc⟩ := nodeC_of hKk
        have hVK := cutV_K hKk
        have HNC := Lib.hid hnc
        have HVL := Lib.hid (And.intro (k43.K_len hVK) (k43.K_one hVK))
        have hld : ∀ q v, (CS j)[q]? = some v → wr.cell? ((ad.add (j * 34)).add q) = some v := fun q v hv => by rw [add_add]; exact hcells q v hv
        have hinfo : (Try.prog.info? 43).map (·.size) = some (CS j).length := by rw [hlen]; kernel_rfl
        have hinfo2 : (Try.prog.info? 43).map (·.size) = some (CS j).toArray.size := by rw [List.size_toArray]; exact hinfo
        have hall : (CS j).toArray.all (·.oneCell') = true := all_oneCell_toArray hone
        have HLN := Lib.hid hlen
        subst hA
        clear hx hKk hone hcells hnc hlen hVK
        have hT : ∀ Z : Array Value, Z.size = 34 → World.there (wr.alloc (.cells Z 43)) wr.heap.size 0 (CS j).toArray.size := fun Z hZ => Blk.there (Blk.new wr 43 Z) _ (by rw [List.size_toArray, HLN.out, hZ]; exact Nat.le_refl _)
        go_upto_region 5 with fail
        go_upto_region 6 with (first | (refine wpList_load_any rfl 43 _ rfl _ rfl (CS j) _ hld Try.underlying43 rfl hinfo ?_) | (refine wpList_store_mid rfl 43 _ _ rfl wr.heap.size 0 ((CS j).toArray) rfl rfl (hT _ rfl) hinfo2 hall ?_))
        have hzv : (#[.int .i64 0, .slice none 0 0, .int .i64 0, .int .i64 0, .int .i64 0, .int .i64 0, .int .i64 0, .int .i64 0, .int .i64 0, .int .i64 0, .int .i64 0, .int .i64 0, .int .u32 0, .int .i64 0, .int .i64 0, .int .u32 0, .int .i64 0, .int .i64 0, .int .u32 0, .int .i64 0, .int .i64 0, .int .u32 0, .int .i64 0, .int .i64 0, .int .i64 0, .bool false, .bool false, .int .i64 0, .int .i64 0, .bool false, .bool false, .slice none 0 0, .int .i64 0, .int .i64 0] : Array Value) = zN := rfl
        rw [hzv]
        obtain ⟨hBk, hBw⟩ := filled_new wr 43 zN (CS j) (by rw [HLN.out]; rfl)
        generalize (wr.alloc (.cells zN 43)).setCells wr.heap.size 0 (CS j) = W3 at hBk hBw ⊢
        have hwr : w.heap.size ≤ wr.heap.size := HB.out.size
        have HR3 := Aside0.mk (Kd.R_below HR.out hBw)
        have HB3 := Aside0.mk (below_then HB.out HB.out.size hBw)
        have HBK := Aside0.mk hBk
        have hvn : ∀ q, u3.ownBlock = some q → q < wr.heap.size := fun q hq => by obtain ⟨cells, hc⟩ := own_typed HR.out.2.choose_spec.1 q hq; exact (Array.getElem?_eq_some_iff.1 hc).1
        have HVN := Lib.hid hvn
        generalize wr.heap.size = N at HBK hwr HVN ⊢
        clear hBk hBw hzv hT hld hinfo hinfo2 hall HR HB hvn
        have h1 := mn_le x.f1.length 30 (by decide)
        have h3 := mn_le x.f3.length 40 (by decide)
        obtain ⟨hs1, -, -⟩ := print_take_of (P := Try.prog) (Value.int .i64) 0 30 3 .i64 Try.underlying30 HI3.out.1 HI3.out.2 A1 c1 x.f1 (mn (x.f1.length : Int) 30) h1.1 h1.2.1 HNC.out.l1
        obtain ⟨hs3, -, -⟩ := print_take_of (P := Try.prog) (Value.int .i64) 0 41 2 .i64 Try.underlying41 HI2.out.1 HI2.out.2 A3 c3 x.f3 (mn (x.f3.length : Int) 40) h3.1 h3.2.1 HNC.out.l3
        have HE1 := Lib.hid (cut_len x.f1.length 30 x.f1 rfl)
        have HE3 := Lib.hid (cut_len x.f3.length 40 x.f3 rfl)
        clear h1 h3
        obtain ⟨j1, hj1⟩ : ∃ j1, j1 = mn (x.f1.length : Int) 30 := ⟨_, rfl⟩
        obtain ⟨j3, hj3⟩ : ∃ j3, j3 = mn (x.f3.length : Int) 40 := ⟨_, rfl⟩
        have hm1 : (if 30 < (x.f1.length : Int) then 30 else (x.f1.length : Int)) = j1 := by rw [hj1]; rfl
        have hm3 : (if 40 < (x.f3.length : Int) then 40 else (x.f3.length : Int)) = j3 := by rw [hj3]; rfl
        rw [← hj1] at hs1
        rw [← hj3] at hs3
        have HE1' := Lib.hid (show (x.f1.take j1.toNat).length = if 30 < x.f1.length then 30 else x.f1.length by rw [hj1]; exact HE1.out)
        have HE3' := Lib.hid (show (x.f3.take j3.toNat).length = if 40 < x.f3.length then 40 else x.f3.length by rw [hj3]; exact HE3.out)
        clear hj1 hj3 HE1 HE3
        have HG1 := Lib.hid (show (CS j).getD 1 undef = .slice A1 x.f1.length c1 by rw [List.getD_eq_getElem?_getD, HNC.out.k1]; rfl)
        have HG3 := Lib.hid (show (CS j).getD 31 undef = .slice A3 x.f3.length c3 by rw [List.getD_eq_getElem?_getD, HNC.out.k31]; rfl)
        have y1 : W3.cell? ⟨N, 1, none⟩ = some (.slice A1 x.f1.length c1) := by rw [BlkIs.cell HBK.out 1, List.getElem?_toArray]; exact HNC.out.k1
        have y31 : W3.cell? ⟨N, 31, none⟩ = some (.slice A3 x.f3.length c3) := by rw [BlkIs.cell HBK.out 31, List.getElem?_toArray]; exact HNC.out.k31
        have l1 := BlkIs.lt HBK.out
        have f1 := BlkIs.frozen HBK.out 1
        have f31 := BlkIs.frozen HBK.out 31
        generalize x.f1.length = n1 at hs1 hm1 HE1' y1 HG1 ⊢
        generalize x.f3.length = n3 at hs3 hm3 HE3' y31 HG3 ⊢
        generalize (x.f1.take j1.toNat).length = m1 at hs1 HE1'
        generalize (x.f3.take j3.toNat).length = m3 at hs3 HE3'
        go_upto_region 8 with fail
        have HBK2 : Aside0 (BlkIs ((W3.setCell ⟨N, 1, none⟩ (.slice A1 m1 c1)).setCell ⟨N, 31, none⟩ (.slice A3 m3 c3)) N 43 (cutV (CS j)).toArray) := ⟨by
          have h := (HBK.out.set 1 (.slice A1 m1 c1)).set 31 (.slice A3 m3 c3)
          unfold cutV
          rw [HG1.out, HG3.out]
          show BlkIs _ N 43 (((CS j).set 1 (.slice A1 (if 30 < n1 then 30 else n1) c1)).set 31 (.slice A3 (if 40 < n3 then 40 else n3) c3)).toArray
          rw [← HE1'.out, ← HE3'.out]
          simpa using h⟩
        have HR4 := Aside0.mk (Kd.R_mono (Kd.R_far (p := ⟨N, 31, none⟩) (Kd.R_far (p := ⟨N, 1, none⟩) (Kd.R_far1 HR3.out rfl (g := N) (fun e => by have := HVN.out N e.symm; omega)) (fun q hq => hq.2) (.slice A1 m1 c1)) (fun q hq => hq.2) (.slice A3 m3 c3)) (fun _ _ => trivial))
        have HB4 := Aside0.mk ((HB3.out.setCell (p := ⟨N, 1, none⟩) hwr (.slice A1 m1 c1)).setCell (p := ⟨N, 31, none⟩) hwr (.slice A3 m3 c3))
        have HE := Lib.hid (show (List.range (j + 1)).map (fun i => cutV (CS i)) = (List.range j).map (fun i => cutV (CS i)) ++ [cutV (CS j)] by rw [List.range_succ, List.map_append]; rfl)
        clear HBK HR3 HB3 y1 y31 l1 f1 f31 hs1 hs3 hm1 hm3 HG1 HG3
        generalize (W3.setCell ⟨N, 1, none⟩ (.slice A1 m1 c1)).setCell ⟨N, 31, none⟩ (.slice A3 m3 c3) = W4 at HBK2 HR4 HB4 ⊢
        have hsl : ((List.range j).map (fun i => cutV (CS i))).length ≤ 1000 := by simp; omega
        generalize (List.range j).map (fun i => cutV (CS i)) = rows at HR4 HE hsl
        have hvl := HVL.out.1
        have hvi : (Try.prog.info? 43).map (·.size) = some (cutV (CS j)).length := by rw [hvl]; kernel_rfl
        have hld : ∀ q v, (cutV (CS j))[q]? = some v → W4.cell? ((⟨N, 0, none⟩ : Addr).add q) = some v := fun q v hv => by
          rw [add_at, Nat.zero_add, BlkIs.cell HBK2.out q, List.getElem?_toArray]; exact hv
        have HM := Lib.hid HVL.out
        clear HVL HBK2 hvl
        generalize cutV (CS j) = cs at hvi hld HM HE ⊢
        have hlc : cs.length = 34 := HM.out.1
        have hzv : (#[.int .i64 0, .slice none 0 0, .int .i64 0, .int .i64 0, .int .i64 0, .int .i64 0, .int .i64 0, .int .i64 0, .int .i64 0, .int .i64 0, .int .i64 0, .int .i64 0, .int .u32 0, .int .i64 0, .int .i64 0, .int .u32 0, .int .i64 0, .int .i64 0, .int .u32 0, .int .i64 0, .int .i64 0, .int .u32 0, .int .i64 0, .int .i64 0, .int .i64 0, .bool false, .bool false, .int .i64 0, .int .i64 0, .bool false, .bool false, .slice none 0 0, .int .i64 0, .int .i64 0] : Array Value) = zN := rfl
        have HF := Lib.hid (fold_node cs hlc)
        have HZ := Lib.hid hzv
        clear hzv
        go_wp2_with (first | (refine wpList_load_any rfl 43 _ rfl ⟨N, 0, none⟩ rfl cs _ hld Try.underlying43 rfl hvi ?_) | ((with_reducible refine gate_builtin (b := .append) (xs := #[.tmp 36, .tmp 38]) rfl ?_); at_builtin; rw [HZ.out, HF.out]; refine Kd.R_append (Kd.raw 34) (w0 := w) w.heap.size rfl (.tmp 36) (.tmp 38) 25 43 (.agg zN) 288 rfl Try.underlying25 info43 rfl (by decide) (by omega) u3 rows cs cs (fun _ => True) (fun _ => False) rfl rfl ⟨rfl, HM.out⟩ (fun _ hk => hk.elim) (fun _ _ => trivial) HR4.out HB4.out HB4.out.size (by omega) ?_; intro v1 w1 ho1 hb1 hg1 hat1; rw [← HE.out] at ho1; have HR5 := Aside0.mk ho1; have HB5 := Aside0.mk hb1; clear ho1 hb1 hg1 hat1 HR4 HB4 hld hsl))
        go_roundw
        case rel => exact ⟨j + 1, by omega, by omega, by go_num, HR5, HB5⟩
        case measure => simp [intOf]; omega
      · have hltz : (j : Int) < (l.length : Int) := by omega
        have hltz2 : ¬ (j : Int) < 150 := by omega
        have hda : decide ((j : Int) < (l.length : Int)) = true := decide_eq_true hltz
        have hdb : decide ((j : Int) < 150) = false := decide_eq_false hltz2
        have hj150 : j = 150 := by omega
        subst hj150
        have h := HR.out
        rw [cutRows_eq (j := 150) (n := l.length) (by omega)] at h
        clear HR
        obtain ⟨A1, c1, rfl⟩ := Kd.R_slice h
        have HH := Lib.hid h
        clear h
        go_wp2
        go_ret
        exact ⟨_, rfl, HH.out, HB.out⟩
    · have hltz : ¬ (j : Int) < (l.length : Int) := by omega
      have hda : decide ((j : Int) < (l.length : Int)) = false := decide_eq_false hltz
      have hjl : j = l.length := by omega
      subst hjl
      have h := HR.out
      rw [cutRows_eq (j := l.length) (n := l.length) (by omega)] at h
      clear HR
      obtain ⟨A1, c1, rfl⟩ := Kd.R_slice h
      have HH := Lib.hid h
      clear h
      go_wp2
      go_ret
      exact ⟨_, rfl, HH.out, HB.out⟩
theorem cut_any (A : Option Addr) (c : Nat) (l : List Nd) (w : World) (hN : Kd.C k43 w A l.length l) (hc : l.length ≤ c) :
    Calls Try.prog 16 #[.slice A l.length c] w fun e w' => ∃ A1 c1, e = .returned (.slice A1 (cutL l).length c1) ∧ (cutL l).length ≤ c1 ∧ Kd.C k43 w' A1 (cutL l).length (cutL l) ∧ Below w.heap.size w w' := by
  obtain ⟨CS, hCS⟩ := nodesAt_of hN
  refine (cut_rows A c l w hN.2.1 CS hCS hc).mono ?_
  rintro e w' ⟨v, rfl, hR, hB⟩
  obtain ⟨A1, c1, hv, hl1, hC1⟩ := Kd.R_reads hR
  obtain ⟨hq1, hq2⟩ := cut_read hCS hB rfl hC1
  replace hq1 : (cutRows CS l.length).length = (cutL l).length := hq1
  rw [hq1] at hv hl1
  subst hv
  exact ⟨A1, c1, rfl, hl1, hq2, hB⟩
end Go.Proofs.Ytjhpkikgajgdmaa.K
