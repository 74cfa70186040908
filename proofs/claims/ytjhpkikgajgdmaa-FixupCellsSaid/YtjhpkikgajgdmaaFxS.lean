/- Layer 5: Fixed walked; the head of the laws. -/
import Derived.Test.YtjhpkikgajgdmaaFxF
import Derived.Test.YtjhpkikgajgdmaaTrI
namespace Go.Proofs.Ytjhpkikgajgdmaa.K
open Go.RowKit Go.Proofs.YtjhpkikgajgdmaaW.PrintWords Go.Proofs.YtjhpkikgajgdmaaW.PrintLast Go.Proofs.YtjhpkikgajgdmaaW.PrintMore
set_option linter.unusedVariables false
set_option linter.unusedSimpArgs false
attribute [local go_sem] Oper.semAt_some

def nodeOK (l : List Nd) (n : Nd) : Bool := n.f1.all (fun k => mayB n.f0 (kindAt l k))
def fixedB (l : List Nd) : Bool := l.all (nodeOK l)
theorem grp_all {p : Int → Bool} : ∀ {l : List Int} {gs : List (List Int × Bool)}, Grp p l gs → gs.all (·.2) = l.all p
  | _, _, .nil => rfl
  | _, _, .cons (g := g) (rest := rest) (b := b) (gs := gs) h0 h1 _ h => by
    rw [List.all_cons, List.all_append, grp_all h]
    congr 1
    cases b with
    | true => exact (List.all_eq_true.2 h1).symm
    | false =>
      obtain ⟨x, hx⟩ := List.exists_mem_of_ne_nil _ h0
      symm
      rw [List.all_eq_false]
      exact ⟨x, hx, by rw [h1 x hx]; decide⟩
theorem runs_all (l : List Nd) (n : Nd) : (runsN l n).all (·.2.2) = nodeOK l n := by
  unfold nodeOK
  rw [← grp_all (grpsN_grp l n)]
  unfold grpsN
  rw [List.all_map]; rfl
theorem runsRd_stab {β : Type} (B b1 b2 : Nat) (kd : Int) (Ak : Option Addr) (n ck : Nat) (Al : Option Addr) (ln cl : Nat) (kid : Nat → Nat) (kk : Nat → Int) : Stab B (fun (_ : β) W => RunsRd b1 b2 kd Ak n ck Al ln cl kid kk W) := by
  intro _ W V row h hg hr
  have hr' : ∀ r, row = some r → ∃ o : Obj, W.heap[r]? = some o ∧ o.isCells = false := fun r e => by
    obtain ⟨-, o, ho, hb⟩ := hr r e
    exact ⟨o, ho, book_not_cells hb⟩
  refine ⟨cell_kept h.c0 hg hr', cell_kept h.c1 hg hr', cell_kept h.c2 hg hr', fun i hi => ?_⟩
  obtain ⟨h1, ak, ad, e1, e2, h2, h3⟩ := h.at_ i hi
  exact ⟨h1, ak, ad, e1, e2, cell_kept h2 hg hr', cell_kept h3 hg hr'⟩
theorem runsRd_in {w V : World} {l : List Nd} {A0 : Option Addr} {CS : Nat → List Value} {c0 b1 b2 ck : Nat} {x : Nd} {Ak : Option Addr} (hCS : NodesAt w A0 CS l) (hk : ∀ k ∈ x.f1, 1 ≤ k ∧ k < (l.length : Int)) (hkC : Kd.C (Kd.int .i64) w Ak x.f1.length x.f1) (hb : Below w.heap.size w V)
    (y0 : V.cell? ⟨b1, 0, none⟩ = some (.int .i64 x.f0)) (y1 : V.cell? ⟨b1, 1, none⟩ = some (.slice Ak x.f1.length ck)) (y2 : V.cell? ⟨b2, 0, none⟩ = some (.slice A0 l.length c0)) :
    RunsRd b1 b2 x.f0 Ak x.f1.length ck A0 l.length c0 (fun j => (x.f1.getD j 0).toNat) (fun j => kindAt l (x.f1.getD j 0)) V := by
  refine ⟨y0, y1, y2, fun j hj => ?_⟩
  obtain ⟨ak, hA, hc⟩ := Kd.at_int hkC (j : Int) (by omega) (by omega)
  have hm : x.f1.getD j 0 ∈ x.f1 := by rw [List.getD_eq_getElem?_getD, List.getElem?_eq_getElem hj]; exact List.getElem_mem hj
  have hb' := hk _ hm
  rw [Int.toNat_natCast] at hc
  have hrd : rd x.f1 (j : Int) = x.f1.getD j 0 := by unfold rd; rw [Int.toNat_natCast]
  rw [hrd] at hc
  obtain ⟨q, hq⟩ := Int.eq_ofNat_of_zero_le (show 0 ≤ x.f1.getD j 0 by omega)
  have hql : q < l.length := by omega
  obtain ⟨ad, hA2, -, -, hcells, hKk⟩ := hCS q _ (List.getElem?_eq_getElem hql)
  obtain ⟨Ak', ck', Aw', cw', hcs, -⟩ := k43_open hKk
  refine ⟨by omega, ak, ad, hA, hA2, ?_, ?_⟩
  · rw [(hb.cell (World.block_lt_of_cell? w _ hc)).trans hc, hq]; simp
  · rw [hq, Int.toNat_natCast, kindAt_nat (List.getElem?_eq_getElem hql)]
    have h0 := hcells 0 (.int .i64 (l[q]).f0) (by rw [hcs]; rfl)
    rw [Nat.add_zero] at h0
    exact (hb.cell (World.block_lt_of_cell? w _ h0)).trans h0

set_option maxRecDepth 100000 in
set_option maxHeartbeats 8000000 in
theorem fixed_yes (A0 : Option Addr) (c0 : Nat) (l0 : List Nd) (w : World) (hr0 : Kd.C k43 w A0 l0.length l0) (hc0 : l0.length ≤ c0) (hl : (linksOf l0).length ≤ 1000000000) (hok : PageOK l0) (hz : (checkP l0).2 = 0) :
    Calls Try.prog 20 #[.slice A0 l0.length c0] w fun e w' => e = .returned (.tuple #[.bool (fixedB l0), .int .i64 0]) ∧ Below w.heap.size w w' := by
  obtain ⟨ea, hea⟩ : ∃ ea, ea = (checkP l0).1 := ⟨_, rfl⟩
  have HC := Lib.hid (tree_Check.calls A0 c0 l0 ea 0 w hr0 hc0 (by unfold tree_Check.f; rw [if_pos hl, hea, ← hz]))
  obtain ⟨CS, hCS⟩ := nodesAt_of hr0
  have HCS := Lib.hid hCS
  have HOK := Lib.hid hok
  have HR0 := Lib.hid hr0
  have HC0 := Lib.hid hc0
  have hm := hok.many
  clear hea hz hok hCS hr0 hc0
  refine calls_of_wp_marks Try.func20 rfl ?_
  simp only [Try.ntmps20, List.size_toArray, List.length_cons, List.length_nil, Nat.reduceAdd, Nat.reduceSub, Array.replicate_succ, Array.replicate_zero, List.push_toArray, List.append_toArray, List.nil_append, List.cons_append]
  go_upto_region 1 with fail
  refine wp_scope_only 0 (by repeat (first | exact fl_here _ _ | refine fl_seq1 (by repeat (first | exact fl_region _ _ _ _ | exact fl_cond _ _ _ _ | exact fl_block _ _ _ | exact fl_ret _ | exact fl_ne (by decide) | refine fl_seq0 ?_ ?_)) ?_)) ?_
  go_upto_region 5 with (go_at_call 30; refine HC.out.mono ?_; rintro e w1 ⟨rfl, hb⟩; have HB := Lib.hid hb; clear hb HC)
  have hB6 : BlkIs (w1.alloc (.cells #[.bool true] 4)) w1.heap.size 4 #[.bool true] := World.alloc_heap_new w1 _
  have HB6 := Lib.hid hB6
  have HBW := Lib.hid (HB.out.alloc HB.out.size (.cells #[.bool true] 4))
  have HLE : Hid (w.heap.size ≤ w1.heap.size) := Lib.hid HB.out.size
  clear hB6 HB
  generalize w1.alloc (.cells #[.bool true] 4) = W1 at HB6 HBW ⊢
  generalize w1.heap.size = b6 at HB6 HLE ⊢
  go_step3
  rename_i hK
  refine hK _ _ ?_
  clear hK
  go_wp2
  refine wp_loop (fun a' W => ∃ (i : Nat) (ds : List Deferred), (i ≤ l0.length ∧ ∀ (j : Nat) (n : Nd), j < i → l0[j]? = some n → nodeOK l0 n = true) ∧ Marks w.heap.size ds W ∧ BlkIs W b6 4 #[.bool true] ∧ Below w.heap.size w W ∧
    ∃ u1 u2 u3 u4 u5 u7 u8 u9 u10 u11 u12 u13 u14 u15 u16 u17 u18 u22 u23 u24 u25 u26 u27 u28 u29 u30 u31 u32 u33 : Value, a' = { tmps := List.toArray ((.slice A0 l0.length c0) :: (u1) :: (u2) :: (u3) :: (u4) :: (u5) :: (.pointer (some ⟨b6, 0, none⟩)) :: (u7) :: (u8) :: (u9) :: (u10) :: (u11) :: (u12) :: (u13) :: (u14) :: (u15) :: (u16) :: (u17) :: (u18) :: (.slice A0 l0.length c0) :: (.int .i64 (l0.length : Int)) :: (.int .i64 (i : Int)) :: (u22) :: (u23) :: (u24) :: (u25) :: (u26) :: (u27) :: (u28) :: (u29) :: (u30) :: (u31) :: (u32) :: (u33) :: []), defers := ds }) (fun a' _ => l0.length - (intOf (a'.tmps.getD 21 undef)).toNat) ?_ ?_
  · exact ⟨0, [], ⟨Nat.zero_le _, fun j n hj => absurd hj (by omega)⟩, Marks.nil _ _, HB6.out, HBW.out, by ((repeat apply Exists.intro); rfl)⟩
  rintro a' W ⟨i, ds, ⟨hi, hdone⟩, hmk, hb6, hbw, hinv⟩
  obtain ⟨u1, hinv⟩ := hinv; obtain ⟨u2, hinv⟩ := hinv; obtain ⟨u3, hinv⟩ := hinv; obtain ⟨u4, hinv⟩ := hinv; obtain ⟨u5, hinv⟩ := hinv; obtain ⟨u7, hinv⟩ := hinv; obtain ⟨u8, hinv⟩ := hinv; obtain ⟨u9, hinv⟩ := hinv; obtain ⟨u10, hinv⟩ := hinv; obtain ⟨u11, hinv⟩ := hinv; obtain ⟨u12, hinv⟩ := hinv; obtain ⟨u13, hinv⟩ := hinv; obtain ⟨u14, hinv⟩ := hinv; obtain ⟨u15, hinv⟩ := hinv; obtain ⟨u16, hinv⟩ := hinv; obtain ⟨u17, hinv⟩ := hinv; obtain ⟨u18, hinv⟩ := hinv; obtain ⟨u22, hinv⟩ := hinv; obtain ⟨u23, hinv⟩ := hinv; obtain ⟨u24, hinv⟩ := hinv; obtain ⟨u25, hinv⟩ := hinv; obtain ⟨u26, hinv⟩ := hinv; obtain ⟨u27, hinv⟩ := hinv; obtain ⟨u28, hinv⟩ := hinv; obtain ⟨u29, hinv⟩ := hinv; obtain ⟨u30, hinv⟩ := hinv; obtain ⟨u31, hinv⟩ := hinv; obtain ⟨u32, hinv⟩ := hinv; obtain ⟨u33, hinv⟩ := hinv
  subst hinv
  have HDN := Lib.hid hdone
  have HMK := Lib.hid hmk
  have HB := Lib.hid hb6
  have HBe := Lib.hid hbw
  clear hdone hmk hb6 hbw HB6 HBW
  by_cases hlt : i < l0.length
  · have hltz : (i : Int) < (l0.length : Int) := by omega
    obtain ⟨x, hx⟩ : ∃ x, l0[i]? = some x := ⟨_, List.getElem?_eq_getElem hlt⟩
    obtain ⟨ad, hA, hlen, hone, hcells, hKk⟩ := HCS.out i x hx
    subst hA
    have HX := Lib.hid hx
    have hld : ∀ j v, (CS i)[j]? = some v → W.cell? ((ad.add (i * 34)).add j) = some v := fun j v hv => by rw [add_add]; exact (HBe.out.cell (World.block_lt_of_cell? w _ (hcells j v hv))).trans (hcells j v hv)
    have hinfo : (Try.prog.info? 43).map (·.size) = some (CS i).length := by rw [hlen]; kernel_rfl
    have hinfo2 : (Try.prog.info? 43).map (·.size) = some (CS i).toArray.size := by rw [List.size_toArray]; exact hinfo
    have hall : (CS i).toArray.all (·.oneCell') = true := all_oneCell_toArray hone
    have HLN := Lib.hid hlen
    obtain ⟨Ak, ck, Aw, cw, hcs, hkl, hkC, -, -⟩ := k43_open hKk
    have HC1 := Lib.hid (show (CS i)[1]? = some (.slice Ak x.f1.length ck) by rw [hcs]; rfl)
    have HCk := Lib.hid (show (CS i)[0]? = some (.int .i64 x.f0) by rw [hcs]; rfl)
    have HKL := Lib.hid (And.intro hkl hkC)
    have hT : ∀ Z : Array Value, Z.size = 34 → World.there (W.alloc (.cells Z 43)) W.heap.size 0 (CS i).toArray.size := fun Z hZ => Blk.there (Blk.new W 43 Z) _ (by rw [List.size_toArray, HLN.out, hZ]; exact Nat.le_refl _)
    clear hx hlen hone hcells hKk hcs hkl hkC
    go_upto_region 8 with (first | (refine wpList_load_any rfl 43 _ rfl _ rfl (CS i) _ hld Try.underlying43 rfl hinfo ?_) | (refine wpList_store_mid rfl 43 _ _ rfl W.heap.size 0 ((CS i).toArray) rfl rfl (hT _ rfl) hinfo2 hall ?_))
    have hzv : (#[.int .i64 0, .slice none 0 0, .int .i64 0, .int .i64 0, .int .i64 0, .int .i64 0, .int .i64 0, .int .i64 0, .int .i64 0, .int .i64 0, .int .i64 0, .int .i64 0, .int .u32 0, .int .i64 0, .int .i64 0, .int .u32 0, .int .i64 0, .int .i64 0, .int .u32 0, .int .i64 0, .int .i64 0, .int .u32 0, .int .i64 0, .int .i64 0, .int .i64 0, .bool false, .bool false, .int .i64 0, .int .i64 0, .bool false, .bool false, .slice none 0 0, .int .i64 0, .int .i64 0] : Array Value) = zN := rfl
    rw [hzv]
    obtain ⟨hBk, hBw⟩ := filled_new W 43 zN (CS i) (by rw [HLN.out]; rfl)
    have HMK3 : Hid (Marks w.heap.size ds ((W.alloc (.cells zN 43)).setCells W.heap.size 0 (CS i))) := Lib.hid (HMK.out.keep (KeepBook.of_below hBw).to)
    have HB3 : Hid (BlkIs ((W.alloc (.cells zN 43)).setCells W.heap.size 0 (CS i)) b6 4 #[.bool true]) := Lib.hid ((hBw.block b6 (BlkIs.lt HB.out)).trans HB.out)
    have HBe3 : Hid (Below w.heap.size w ((W.alloc (.cells zN 43)).setCells W.heap.size 0 (CS i))) := Lib.hid (below_then HBe.out HBe.out.size hBw)
    generalize (W.alloc (.cells zN 43)).setCells W.heap.size 0 (CS i) = W3 at hBk hBw HMK3 HB3 HBe3 ⊢
    clear HMK HB HBe hBw hld hinfo2 hall hT hzv
    generalize W.heap.size = N at hBk ⊢
    have hrng : W3.rangeAt N 0 (CS i) := fun q v hq => by rw [Nat.zero_add, BlkIs.cell hBk q, List.getElem?_toArray]; exact hq
    have lN := BlkIs.lt hBk
    clear hBk
    go_wp2_with (first | (refine wpList_load_mid rfl 43 _ rfl N 0 rfl (CS i) _ hrng Try.underlying43 rfl hinfo ?_) | (go_at_call 28; refine (runs_any (some ad) l0.length c0 (CS i) _).mono ?_; rintro e w6 ⟨rfl, rfl⟩))
    have h2 : BlkIs ((W3.alloc (.cells #[.slice (some ad) l0.length c0] 25)).alloc (.cells (CS i).toArray 43)) W3.heap.size 25 #[.slice (some ad) l0.length c0] := BlkIs.alloc (World.alloc_heap_new W3 _) _
    have h1 : BlkIs ((W3.alloc (.cells #[.slice (some ad) l0.length c0] 25)).alloc (.cells (CS i).toArray 43)) (W3.heap.size + 1) 43 (CS i).toArray := by
      have := World.alloc_heap_new (W3.alloc (.cells #[.slice (some ad) l0.length c0] 25)) (.cells (CS i).toArray 43)
      rwa [World.size_alloc] at this
    have HMK5 := Lib.hid (HMK3.out.keep (((KeepBook.refl W3).alloc (.cells #[.slice (some ad) l0.length c0] 25)).alloc (.cells (CS i).toArray 43)).to)
    have HB5 := Lib.hid ((HB3.out.alloc (.cells #[.slice (some ad) l0.length c0] 25)).alloc (.cells (CS i).toArray 43))
    have HBe5 := Lib.hid (below_alloc (below_alloc HBe3.out (.cells #[.slice (some ad) l0.length c0] 25)) (.cells (CS i).toArray 43))
    have hRd := runsRd_in (x := x) (ck := ck) (c0 := c0) HCS.out (kids_ok HOK.out.links x (List.mem_of_getElem? HX.out)) HKL.out.2 HBe5.out ((BlkIs.cell h1 0).trans (by rw [List.getElem?_toArray]; exact HCk.out)) ((BlkIs.cell h1 1).trans (by rw [List.getElem?_toArray]; exact HC1.out)) (BlkIs.cell h2 0)
    have HRd := Lib.hid hRd
    clear h1 h2 hRd HMK3 HB3 HBe3 hrng lN
    generalize ((W3.alloc (.cells #[.slice (some ad) l0.length c0] 25)).alloc (.cells (CS i).toArray 43)) = W5 at HMK5 HB5 HBe5 HRd ⊢
    generalize W3.heap.size = S at HRd ⊢
    have hkn : x.f1.length < 1000000000 := by
      have h1 := sum_at (fun n => n.f1.length) HX.out
      have h2 := kidsum_valid HOK.out
      unfold kidsum at h2
      omega
    refine wp_range_plain (runs1_iter (S + 1) S x.f0 Ak x.f1.length ck (some ad) l0.length c0 (fun j => (x.f1.getD j 0).toNat) (fun j => kindAt l0 (x.f1.getD j 0)) hkn HKL.out.1 (by omega)) (enters_of Try.func42 (by kernel_rfl) rfl) rfl (fun _ => rfl)
      (fun (pre : List (Nat × Nat × Bool)) V => (pre.all (·.2.2) = true ∧ RunsRd (S + 1) S x.f0 Ak x.f1.length ck (some ad) l0.length c0 (fun j => (x.f1.getD j 0).toNat) (fun j => kindAt l0 (x.f1.getD j 0)) V) ∧ BlkIs V b6 4 #[.bool true] ∧ Below w.heap.size w V)
      (fun (c : Code) V => (c = .exit 0 ∧ nodeOK l0 x = false) ∧ BlkIs V b6 4 #[.bool false] ∧ Below w.heap.size w V)
      (Stab.and (Stab.and (Stab.pure _ (fun (pre : List (Nat × Nat × Bool)) => pre.all (·.2.2) = true)) (runsRd_stab _ _ _ _ _ _ _ _ _ _ _ _)) (Stab.and (Stab.blk b6 _ (fun _ => #[.bool true])) (Stab.below (Nat.le_refl _) HBe5.out.size)))
      (Stab.and (Stab.pure _ (fun (c : Code) => c = .exit 0 ∧ nodeOK l0 x = false)) (Stab.and (Stab.blk b6 _ (fun _ => #[.bool false])) (Stab.below (Nat.le_refl _) HBe5.out.size)))
      (fun pre V h => h.1.2) ⟨⟨rfl, HRd.out⟩, HB5.out, HBe5.out⟩ ?round ?done ?stop
    case stop =>
      rintro D c V hD ⟨⟨rfl, hno⟩, hb6, hbw⟩ hbook hd
      have HMk2 := Lib.hid (HMK5.out.cons HBe5.out.size hD hbook hd)
      have HB6' := Lib.hid hb6
      have HBw' := Lib.hid hbw
      have hfx : fixedB l0 = false := by
        unfold fixedB
        rw [List.all_eq_false]
        exact ⟨x, List.mem_of_getElem? HX.out, by rw [hno]; decide⟩
      have HFX := Lib.hid hfx
      have y6 : V.cell? ⟨b6, 0, none⟩ = some (.bool false) := BlkIs.cell hb6 0
      have l6 := BlkIs.lt hb6
      clear hno hb6 hbw hbook hd hfx
      go_wp2
      show LeavesInM _ _ _ _ _ _ _ _ _
      refine leaves_marks (v := .tuple #[.bool false, .int .i64 0]) (B := w.heap.size) HMk2.out (fun W' hs => ⟨by simp [results, Try.results20], by rw [HFX.out], hs.stab _ (Stab.below (Nat.le_refl _) (Nat.le_refl _)) HBw'.out⟩)
    case done =>
      rintro D V hD ⟨⟨hall, -⟩, hb6, hbw⟩ hbook hd
      have HMk2 := Lib.hid (HMK5.out.cons HBe5.out.size hD hbook hd)
      have hnx : nodeOK l0 x = true := by rw [← runs_all]; exact hall
      have HDN2 := Lib.hid (show ∀ (j : Nat) (n : Nd), j < i + 1 → l0[j]? = some n → nodeOK l0 n = true from fun j n hj hn => by
        by_cases e : j = i
        · subst e; rw [HX.out] at hn; cases hn; exact hnx
        · exact HDN.out j n (by omega) hn)
      have HB6' := Lib.hid hb6
      have HBw' := Lib.hid hbw
      have hwi : IntKind.i64.wrap ((i : Int) + 1) = (i : Int) + 1 := IntWalk.i64_in _ (by omega)
      clear hall hb6 hbw hbook hd hnx
      go_wp2
      refine ⟨⟨i + 1, markOf D :: ds, ⟨by omega, HDN2.out⟩, HMk2.out, HB6'.out, HBw'.out, by ((repeat apply Exists.intro); rfl)⟩, ?_⟩
      simp [intOf]; omega
    case round =>
      rintro lp pre ⟨f, tt, b⟩ rest V hx hl ⟨⟨hall, hrd⟩, hb6, hbw⟩
      have HX2 := Lib.hid (show runsN l0 x = pre ++ (f, tt, b) :: rest from hx)
      have HAll := Lib.hid hall
      have HRd2 := Lib.hid hrd
      have HB6' := Lib.hid hb6
      have HBw' := Lib.hid hbw
      clear hx hall hrd hb6 hbw
      dsimp only [runV]
      gi_wp2
      refine ⟨by (repeat (first | (with_reducible exact KeepBook.refl _) | (with_reducible refine KeepBook.alloc ?_ _) | (with_reducible refine KeepBook.setCell ?_ _ _) | (with_reducible refine KeepBook.drew ?_) | (refine KeepBook.below ?_ (by assumption)))), ?_⟩
      rintro W2 hs _
      have HRd3 := Lib.hid (hs.stab _ (runsRd_stab _ _ _ _ _ _ _ _ _ _ _ _) HRd2.out)
      have HB7 : Hid (BlkIs W2 b6 4 #[.bool true]) := Lib.hid (hs.blk HB6'.out)
      have HBe7 : Hid (Below w.heap.size w W2) := Lib.hid (hs.stab _ (Stab.below (Nat.le_refl _) HBe5.out.size) HBw'.out)
      have y6 : W2.cell? ⟨b6, 0, none⟩ = some (.bool true) := BlkIs.cell HB7.out 0
      have f6 := BlkIs.frozen HB7.out 0
      have l6 := BlkIs.lt HB7.out
      clear hs HRd2 HB6' HBw'
      cases b
      · gi_wp2
        refine ⟨(KeepBook.refl W2).setCell _ _, ⟨rfl, ?_⟩, BlkIs.set HB7.out 0 _, ?_⟩
        · rw [← runs_all, List.all_eq_false]
          exact ⟨(f, tt, false), by rw [HX2.out]; simp, Bool.false_ne_true⟩
        · exact HBe7.out.setCell (p := ⟨b6, 0, none⟩) HLE.out _
      · gi_wp2
        refine ⟨KeepBook.refl W2, ⟨by rw [List.all_append, HAll.out]; rfl, HRd3.out⟩, HB7.out, HBe7.out⟩
  · have hie : i = l0.length := by omega
    subst hie
    have hdlt : decide (l0.length < l0.length) = false := decide_eq_false (by omega)
    have y6 : W.cell? ⟨b6, 0, none⟩ = some (.bool true) := BlkIs.cell HB.out 0
    have hfx : fixedB l0 = true := by
      unfold fixedB
      rw [List.all_eq_true]
      intro n hn
      obtain ⟨j, hj⟩ := List.getElem?_of_mem hn
      exact HDN.out j n (List.getElem?_eq_some_iff.1 hj).1 hj
    have HFX := Lib.hid hfx
    clear hfx
    go_wp2
    show LeavesInM _ _ _ _ _ _ _ _ _
    refine leaves_marks (v := .tuple #[.bool true, .int .i64 0]) (B := w.heap.size) HMK.out (fun W' hs => ⟨by simp [results, Try.results20], by rw [HFX.out], hs.stab _ (Stab.below (Nat.le_refl _) (Nat.le_refl _)) HBe.out⟩)
def fixedR (l0 : List Nd) : Bool × Int := if (checkP l0).2 = 0 then (fixedB l0, 0) else (false, (checkP l0).2)
def fixup_Fixed.f (l0 : List Nd) : Option (Bool × Int) := if (linksOf l0).length ≤ 1000000000 then some (fixedR l0) else none
set_option maxRecDepth 100000 in
set_option maxHeartbeats 8000000 in
theorem fixup_Fixed.calls (A0 : Option Addr) (c0 : Nat) (l0 : List Nd) (r1 : Bool) (r2 : Int) (w : World) (hr0 : Kd.C k43 w A0 l0.length l0) (hc0 : l0.length ≤ c0) (h : fixup_Fixed.f l0 = some (r1, r2)) :
    Calls Try.prog 20 #[.slice A0 l0.length c0] w fun e w' => e = .returned (.tuple #[.bool r1, .int .i64 r2]) ∧ Below w.heap.size w w' := by
  unfold fixup_Fixed.f at h
  split at h
  rotate_left
  · cases h
  rename_i hl
  have h' := Option.some.inj h
  unfold fixedR at h'
  by_cases q : (checkP l0).2 = 0
  · rw [if_pos q] at h'
    injection h' with e1 e2
    subst e1 e2
    exact fixed_yes A0 c0 l0 w hr0 hc0 hl ((ok_iff l0).1 q) q
  · rw [if_neg q] at h'
    injection h' with e1 e2
    obtain ⟨ea, hea⟩ : ∃ ea, ea = (checkP l0).1 := ⟨_, rfl⟩
    have HC := Lib.hid (tree_Check.calls A0 c0 l0 ea (checkP l0).2 w hr0 hc0 (by unfold tree_Check.f; rw [if_pos hl, hea]))
    subst e1 e2
    clear hea
    generalize (checkP l0).2 = er at q HC ⊢
    have hqb : (er != 0) = true := by simpa using q
    clear hr0 hc0 h hl q
    refine calls_of_wp_marks Try.func20 rfl ?_
    simp only [Try.ntmps20, List.size_toArray, List.length_cons, List.length_nil, Nat.reduceAdd, Nat.reduceSub, Array.replicate_succ, Array.replicate_zero, List.push_toArray, List.append_toArray, List.nil_append, List.cons_append]
    go_upto_region 1 with fail
    refine wp_scope_only 0 (by repeat (first | exact fl_here _ _ | refine fl_seq1 (by repeat (first | exact fl_region _ _ _ _ | exact fl_cond _ _ _ _ | exact fl_block _ _ _ | exact fl_ret _ | exact fl_ne (by decide) | refine fl_seq0 ?_ ?_)) ?_)) ?_
    go_wp2_with (go_at_call 30; refine HC.out.mono ?_; rintro e w1 ⟨rfl, hb⟩; have HB := Lib.hid hb; clear hb HC)
    show LeavesInM _ _ _ _ _ _ _ _ _
    exact leaves_marks (v := .tuple #[.bool false, .int .i64 er]) (B := w.heap.size) (Marks.nil _ _) (fun W' hs => ⟨by simp [results, Try.results20], rfl, hs.stab _ (Stab.below (Nat.le_refl _) (Nat.le_refl _)) HB.out⟩)
end Go.Proofs.Ytjhpkikgajgdmaa.K
namespace Go.Proofs.Ytjhpkikgajgdmaa.K
open Go.RowKit Go.Proofs.YtjhpkikgajgdmaaW.PrintWords Go.Proofs.YtjhpkikgajgdmaaW.PrintLast Go.Proofs.YtjhpkikgajgdmaaW.PrintMore
set_option linter.unusedVariables false
set_option linter.unusedSimpArgs false
attribute [local go_sem] Oper.semAt_some

def purflinglaw05_shown.f : Option (Bool) := some true
def lit2 : List Nd := [nd0 2 [1], nd0 10 []]
theorem lit2_fix : (linksOf lit2).length ≤ 1000000000 ∧ (checkP lit2).2 = 0 ∧ (fixP lit2).length = 3 ∧ ((fixP lit2).getD 2 z43).f0 = 9 ∧ ((fixP lit2).getD 0 z43).f1 = [2] ∧ ((fixP lit2).getD 2 z43).f1 = [1] := by decide +kernel
theorem nil_fix : (linksOf ([] : List Nd)).length ≤ 1000000000 ∧ (checkP ([] : List Nd)).2 = 43 := by decide +kernel
theorem wp_pick2 {P : Program} {c : Code} {Q : Exit → Act → World → Prop} {a : Act} {w : World} {c1 c2 : Array Value} {t1 t2 : Nat}
    (h : ∀ W, BlkIs W w.heap.size t1 c1 → BlkIs W (w.heap.size + 1) t2 c2 → Below w.heap.size w W → w.heap.size + 1 + 1 = W.heap.size → Code.wp P c Q a W) :
    Code.wp P c Q a ((w.alloc (.cells c1 t1)).alloc (.cells c2 t2)) := by
  refine h _ ?_ ?_ ?_ (by simp)
  · exact BlkIs.alloc (World.alloc_heap_new w _) _
  · have h2 := World.alloc_heap_new (w.alloc (.cells c1 t1)) (.cells c2 t2)
    rwa [World.size_alloc] at h2
  · exact ((Below.refl _ w).alloc (Nat.le_refl _) _).alloc (by simp) _
set_option maxRecDepth 100000 in
set_option maxHeartbeats 4000000 in
theorem purflinglaw05_shown.calls (r : Bool) (w : World) (h : purflinglaw05_shown.f = some r) :
    Calls Try.prog 10 #[] w fun e w' => e = .returned (.bool r) ∧ Below w.heap.size w w' := by
  obtain rfl : true = r := Option.some.inj h
  clear h
  go_enter Try.func10, Try.ntmps10
  have hO : ∀ c2 : Array Value, c2.toList = [nv0 2 (.slice (some ⟨w.heap.size, 0, none⟩) 1 1), nv0 10 (.slice none 0 0)].flatten → Calls Try.prog 15 #[.slice (some ⟨w.heap.size + 1, 0, none⟩) 2 2] ((w.alloc (.cells #[.int .i64 1] 3)).alloc (.cells c2 43)) fun e w' => (∃ v0_ : Value, e = .returned (.tuple #[v0_, .int .i64 0]) ∧ Kd.V k43 43 w' w.heap.size (fun k_ => True) v0_ (fixP lit2)) ∧ Below w.heap.size w w' := fun c2 hc2 => by
    have b1 : BlkIs ((w.alloc (.cells #[.int .i64 1] 3)).alloc (.cells c2 43)) w.heap.size 3 #[.int .i64 1] := BlkIs.alloc (World.alloc_heap_new w _) _
    have b2 : BlkIs ((w.alloc (.cells #[.int .i64 1] 3)).alloc (.cells c2 43)) (w.heap.size + 1) 43 c2 := by
      have h2 := World.alloc_heap_new (w.alloc (.cells #[.int .i64 1] 3)) (.cells c2 43)
      rwa [World.size_alloc] at h2
    have hC1 := c_ints b1 (xs := [1]) rfl (by decide)
    have hC : Kd.C k43 ((w.alloc (.cells #[.int .i64 1] 3)).alloc (.cells c2 43)) (some ⟨w.heap.size + 1, 0, none⟩) 2 lit2 := c_nodes b2 lit2 [nv0 2 (.slice (some ⟨w.heap.size, 0, none⟩) 1 1), nv0 10 (.slice none 0 0)] hc2 rfl (by decide) (fun i x c hx hc => by
      match i, hx, hc with
      | 0, hx, hc => cases hx; cases hc; exact nv0_K (Nat.le_refl _) hC1
      | 1, hx, hc => cases hx; cases hc; exact nv0_K0 _ _
      | i + 2, hx, hc => simp [lit2] at hx)
    have hbb : Below w.heap.size w ((w.alloc (.cells #[.int .i64 1] 3)).alloc (.cells c2 43)) := ((Below.refl _ w).alloc (Nat.le_refl _) _).alloc (by simp) _
    refine (fixup_Fix.calls (some ⟨w.heap.size + 1, 0, none⟩) 2 lit2 (fixP lit2) 0 _ hC (Nat.le_refl _) (by unfold fixup_Fix.f fixR; rw [if_pos lit2_fix.1, if_pos lit2_fix.2.1])).mono ?_
    rintro e w' ⟨v0, he, hv, hb⟩
    exact ⟨⟨v0, he, Kd.V_mono hv (fun _ _ => trivial)⟩, below_then hbb hbb.size hb⟩
  have HO := Lib.hid hO
  have HN : Hid (∀ W, Calls Try.prog 15 #[.slice none 0 0] W fun e w' => ∃ v0_ : Value, e = .returned (.tuple #[v0_, .int .i64 43]) ∧ Kd.V k43 43 w' W.heap.size (fun k_ => (W.heap.size ≤ k_)) v0_ [] ∧ Below W.heap.size W w') := Lib.hid (fun W => fixup_Fix.calls none 0 [] [] 43 W ⟨rfl, by simp, fun h => absurd h (Nat.lt_irrefl _)⟩ (Nat.le_refl _) (by unfold fixup_Fix.f fixR; rw [if_pos nil_fix.1, if_neg (by rw [nil_fix.2]; decide), nil_fix.2]))
  clear hO
  go_upto_region 2 with (go_at_call 15; refine (HO.out _ rfl).mono ?_; rintro e w1 ⟨⟨v1, rfl, hv1⟩, hb1⟩; have HV1 := Lib.hid hv1; have HB1 := Lib.hid hb1; clear hv1 hb1 HO)
  obtain ⟨A1, c1, hv, hl1, hF1⟩ := HV1.out
  subst hv
  rw [lit2_fix.2.2.1] at hl1 hF1
  have HF1 := Lib.hid hF1
  clear hF1 HV1
  rw [lit2_fix.2.2.1]
  go_upto_region 3 with (go_at_call 15; refine (HN.out _).mono ?_; rintro e w2 ⟨v2, rfl, hv2, hb2⟩; have HB2 := Lib.hid (below_then HB1.out HB1.out.size hb2); have HF2 := Lib.hid (Kd.F_below HF1.out hb2); have HV2 := Lib.hid hv2; clear hv2 hb2 HN HB1)
  clear HF1 HV2
  have hC2 := Kd.F_now HF2.out
  obtain ⟨ad, d0, rfl, -, hK0, hd0⟩ := Kd.C_get hC2 z43 0 (by omega) (by omega)
  obtain ⟨ad', d2, e2, -, hK2, hd2⟩ := Kd.C_get hC2 z43 2 (by omega) (by omega)
  injection e2 with e2
  subst e2
  have r0 : ((fixP lit2).getD (0 : Int).toNat z43).f1 = [2] := lit2_fix.2.2.2.2.1
  have r2 : ((fixP lit2).getD (2 : Int).toNat z43).f1 = [1] := lit2_fix.2.2.2.2.2
  have r9 : ((fixP lit2).getD (2 : Int).toNat z43).f0 = 9 := lit2_fix.2.2.2.1
  obtain ⟨A0k, c0k, A0w, c0w, hce0, hl0, hC0, -, -⟩ := k43_open hK0
  obtain ⟨A2k, c2k, A2w, c2w, hce2, hl2, hC2k, -, -⟩ := k43_open hK2
  rw [r0] at hce0 hl0 hC0
  rw [r2, r9] at hce2
  rw [r2] at hl2 hC2k
  have g01 : w2.cell? (ad.add 1) = some (.slice A0k 1 c0k) := hd0 1 (.slice A0k 1 c0k) (by rw [hce0]; rfl)
  have g20 : w2.cell? (ad.add 68) = some (.int .i64 9) := hd2 0 (.int .i64 9) (by rw [hce2]; rfl)
  have g21 : w2.cell? (ad.add 69) = some (.slice A2k 1 c2k) := hd2 1 (.slice A2k 1 c2k) (by rw [hce2]; rfl)
  rw [add_succ_at] at g01 g20 g21
  replace g01 : w2.cell? ⟨ad.block, ad.off + 1, none⟩ = some (.slice A0k 1 c0k) := g01
  replace g20 : w2.cell? ⟨ad.block, ad.off + 68, none⟩ = some (.int .i64 9) := g20
  replace g21 : w2.cell? ⟨ad.block, ad.off + 69, none⟩ = some (.slice A2k 1 c2k) := g21
  have g21' : w2.cell? ⟨ad.block, ad.off + 68 + 1, none⟩ = some (.slice A2k 1 c2k) := g21
  have HC0 := Lib.hid hC0
  have HC2k := Lib.hid hC2k
  have HL0 := Lib.hid hl0
  have HL2 := Lib.hid hl2
  clear hK0 hd0 hK2 hd2 r0 r2 r9 hce0 hce2 hC0 hC2k hl0 hl2 hC2
  have HI : Hid (∀ W, Kd.C (Kd.int .i64) W A0k 1 [2] → Calls Try.prog 17 #[.slice A0k 1 c0k, .slice (some ⟨W.heap.size, 0, none⟩) 1 1] (W.alloc (.cells #[.int .i64 2] 3)) fun e w' => e = .returned (.bool true) ∧ Below W.heap.size W w') := Lib.hid (fun W hr => by
    have hb := c_ints (W := W.alloc (.cells #[.int .i64 2] 3)) (World.alloc_heap_new W _) (xs := [2]) rfl (by decide)
    exact (ints_same (xs := [2]) rfl (by decide) A0k c0k _ 1 _ (Kd.C_alloc hr _) HL0.out hb (Nat.le_refl _)).mono (fun e w' h => ⟨h.1, ((Below.refl W.heap.size W).alloc (Nat.le_refl _) _).trans (h.2.mono (by simp))⟩))
  have HJ : Hid (∀ W, Kd.C (Kd.int .i64) W A2k 1 [1] → Calls Try.prog 17 #[.slice A2k 1 c2k, .slice (some ⟨W.heap.size, 0, none⟩) 1 1] (W.alloc (.cells #[.int .i64 1] 3)) fun e w' => e = .returned (.bool true) ∧ Below W.heap.size W w') := Lib.hid (fun W hr => by
    have hb := c_ints (W := W.alloc (.cells #[.int .i64 1] 3)) (World.alloc_heap_new W _) (xs := [1]) rfl (by decide)
    exact (ints_same (xs := [1]) rfl (by decide) A2k c2k _ 1 _ (Kd.C_alloc hr _) HL2.out hb (Nat.le_refl _)).mono (fun e w' h => ⟨h.1, ((Below.refl W.heap.size W).alloc (Nat.le_refl _) _).trans (h.2.mono (by simp))⟩))
  have hlt : ad.block < w2.heap.size := World.block_lt_of_cell? w2 ⟨ad.block, ad.off + 69, none⟩ g21
  go_wp2_with (first | ((try (refine gate_guard (by rfl) ?_; dsimp only)); go_at_call 17; (with_reducible refine (HI.out _ HC0.out).mono ?_); rintro e w4 ⟨rfl, hb⟩; have k21 := (hb.cell (p := ⟨ad.block, ad.off + 69, none⟩) hlt).trans g21; have k21' : w4.cell? ⟨ad.block, ad.off + 68 + 1, none⟩ = some (.slice A2k 1 c2k) := k21; have HB4 := Lib.hid (below_then HB2.out HB2.out.size hb); have HC4 := Lib.hid (Kd.C_below HC2k.out hb); clear hb HB2 HC2k HC0 HI g01 g20 g21 g21') | ((try (refine gate_guard (by rfl) ?_; dsimp only)); go_at_call 17; (with_reducible refine (HJ.out _ HC4.out).mono ?_); rintro e w5 ⟨rfl, hb⟩; have HB5 := Lib.hid (below_then HB4.out HB4.out.size hb); clear hb HB4 HC4 HJ))
  go_ret
  exact ⟨rfl, HB5.out⟩
end Go.Proofs.Ytjhpkikgajgdmaa.K
