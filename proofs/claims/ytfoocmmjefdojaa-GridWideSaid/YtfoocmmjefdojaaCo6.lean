/- Layer 13: Bands. -/
import Derived.Test.YtfoocmmjefdojaaCo5
import Derived.Deep.RegionWith
import Derived.Test.YtfoocmmjefdojaaHeld
namespace Go.Proofs.Ytfoocmmjefdojaa.K
open Go.RowKit Go.Proofs.YtfoocmmjefdojaaW.PrintWords Go.Proofs.YtfoocmmjefdojaaW.PrintLast Go.Proofs.YtfoocmmjefdojaaW.PrintMore
set_option linter.unusedVariables false
set_option linter.unusedSimpArgs false
attribute [local go_sem] Oper.semAt_some

/-- a post that speaks of the normal end alone -/
def onlyNormal (R : Act → World → Prop) : Exit → Act → World → Prop
  | .normal, a, w => R a w
  | _, _, _ => False
theorem wp_only {P : Program} {c : Code} {Q : Exit → Act → World → Prop} {a : Act} {w : World} (h : c.wp P (onlyNormal fun a w => Q .normal a w) a w) : c.wp P Q a w :=
  Code.wp_mono (fun e a w h => by cases e <;> first | exact h | exact h.elim) h

theorem BlkIs.other {w : World} {b t : Nat} {cs : Array Value} (h : BlkIs w b t cs) {p : Addr} (hp : b ≠ p.block) (v : Value) : BlkIs (w.setCell p v) b t cs := (heap_setCell_other w p b v hp).trans h

def z0 : S62 := ⟨0, 0, -1, -1⟩
/-- a need of one column, told to its band -/
def tellP (b : S62) (x : S60) : S62 := wantsP { b with f0 := max b.f0 x.f1, f1 := max b.f1 x.f2 } x.f3
def addP (bs : List S62) (x : S60) : List S62 :=
  match bs[x.f0.f2.toNat]? with
  | some b => bs.set x.f0.f2.toNat (tellP b x)
  | none => bs
def bandsP (sizes : List S58) (l : List S60) : List S62 := ((l.filter ownB).foldl addP (sizes.map (wantsP z0))).map settlesP

theorem addP_len (bs : List S62) (x : S60) : (addP bs x).length = bs.length := by
  unfold addP; split <;> simp
theorem foldl_addP_len : ∀ (l : List S60) (bs : List S62), (l.foldl addP bs).length = bs.length
  | [], bs => rfl
  | x :: l, bs => by rw [List.foldl_cons, foldl_addP_len l, addP_len]

theorem outIs_R {w : World} {O base : Nat} {bs : List S62} (h : OutIs w O bs) (hb : base ≤ O) (hl : bs.length ≤ 1000000) :
    Kd.R k62 62 w base (fun _ => True) (.slice (some ⟨O, 0, none⟩) bs.length bs.length) bs := by
  refine ⟨fun _ _ => trivial, bs.flatMap bandC, ?_, ?_⟩
  · refine ⟨by rw [flat_len bandC 4 bandC_len]; rfl, .inr ⟨O, bs.length, (bs.flatMap bandC).toArray, rfl, hb, h, Nat.le_refl _, by unfold maxLen; omega, by rw [List.size_toArray, flat_len bandC 4 bandC_len]; rfl, ?_⟩⟩
    rw [List.toList_toArray, List.take_of_length_le (by rw [flat_len bandC 4 bandC_len]; exact Nat.le_refl _)]
  · refine ⟨by rw [flat_len bandC 4 bandC_len]; rfl, fun j p hj => ?_⟩
    have : ((bs.flatMap bandC).drop (j * 4)).take 4 = bandC p := by
      apply List.ext_getElem?
      intro i
      by_cases hi : i < 4
      · rw [List.getElem?_take, if_pos hi, List.getElem?_drop, flat_get bandC 4 bandC_len i hi bs j p hj]
      · rw [List.getElem?_take, if_neg hi, List.getElem?_eq_none (by rw [bandC_len]; omega)]
    show k62.M w base _ p (((bs.flatMap bandC).drop (j * 4)).take 4)
    rw [this]
    exact k62_mkM _ _ _ p

theorem map_step {α β : Type} {f : α → β} {xs : List α} {ys : List β} {k : Nat} {x : α} (hx : xs[k]? = some x) (hl : ys.length = xs.length) :
    ((xs.take k).map f ++ ys.drop k).set k (f x) = (xs.take (k + 1)).map f ++ ys.drop (k + 1) := by
  have hk := (List.getElem?_eq_some_iff.1 hx).1
  have hm : ((xs.take k).map f).length = k := by simp; omega
  rw [List.set_append_right _ _ (by omega), hm, Nat.sub_self, List.drop_eq_getElem_cons (by omega), List.set_cons_zero, List.take_add_one, hx]
  simp
theorem map_at {α β : Type} {f : α → β} {xs : List α} {ys : List β} {k : Nat} {y : β} (hk : k < xs.length) (hy : ys[k]? = some y) : ((xs.take k).map f ++ ys.drop k)[k]? = some y := by
  have hm : ((xs.take k).map f).length = k := by simp; omega
  rw [List.getElem?_append_right (by omega), hm, Nat.sub_self, List.getElem?_drop]; simpa using hy

set_option maxRecDepth 100000 in
set_option maxHeartbeats 4000000 in
theorem bands_yes (sizes : List S58) (l : List S60) (A0 A1 : Option Addr) (c0 c1 : Nat) (w : World) (hr0 : Kd.C k58 w A0 sizes.length sizes) (hc0 : sizes.length ≤ c0) (hr1 : Kd.C k60 w A1 l.length l) (hc1 : l.length ≤ c1) (hR : rightB sizes l = true) :
    Calls Try.prog 28 #[.slice A0 sizes.length c0, .slice A1 l.length c1] w fun e w' => ∃ v0_ : Value, e = .returned (.tuple #[v0_, .int .i64 0]) ∧ Kd.R k62 62 w' w.heap.size (fun _ => True) v0_ (bandsP sizes l) ∧ Below w.heap.size w w' := by
  have hn : sizes.length ≤ 10000 := by simp [rightB] at hR; exact hR.1.1
  have hn0 := right_any sizes l A0 A1 c0 c1 w hr0 hc0 hr1 hc1
  rw [hR] at hn0
  have HN := Lib.hid hn0
  clear hn0
  have HP := Lib.hid fun (W : World) (b c : Nat) (hb : b < W.heap.size) (hx : ∀ j v, (bandC z0)[j]? = some v → W.cell? ⟨b, j, none⟩ = some v) => repeat_any z0 sizes.length (by omega) b c W hb hx
  have HR := Lib.hid hR
  have H0 := Lib.hid hr0
  have H1 := Lib.hid hr1
  have HC1 := Lib.hid hc1
  clear hr0 hr1 hR hc0 hc1
  refine calls_of_wp_marks Try.func28 rfl ?_
  simp only [Try.ntmps28, List.size_toArray, List.length_cons, List.length_nil, Nat.reduceAdd, Nat.reduceSub, Array.replicate_succ, Array.replicate_zero, List.push_toArray, List.append_toArray, List.nil_append, List.cons_append]
  go_wp2_with (go_at_call 30; refine HN.out.mono ?_; rintro e w1 ⟨rfl, hb1⟩; have HB1 := Lib.hid hb1; clear hb1)
  refine (HP.out _ w1.heap.size 1 (by simp) (fun j v hv => ?_)).mono ?_
  · simpa [bandC, z0] using hv
  rintro e w2 ⟨O, rfl, ho, hb2, hO⟩
  have HO := Lib.hid ho
  have HB2 := Lib.hid ((HB1.out.alloc HB1.out.size _).trans (hb2.mono (by have := HB1.out.size; simp; omega)))
  have HOw : w.heap.size ≤ O := by
    have := HB1.out.size
    simp at hO
    omega
  clear ho hb2 hO
  go_wp2
  have hOX : O < w2.heap.size := BlkIs.lt HO.out
  obtain ⟨X, hX⟩ : ∃ X, X = w2.heap.size := ⟨_, rfl⟩
  obtain ⟨n, hnn⟩ : ∃ n, n = sizes.length := ⟨_, rfl⟩
  have HO3 : Aside0 (OutIs (w2.alloc (.cells #[.slice (some ⟨O, 0, none⟩) sizes.length sizes.length] 51)) O (List.replicate sizes.length z0)) := ⟨BlkIs.alloc HO.out _⟩
  have HX3 : Aside0 (BlkIs (w2.alloc (.cells #[.slice (some ⟨O, 0, none⟩) sizes.length sizes.length] 51)) X 51 #[.slice (some ⟨O, 0, none⟩) sizes.length sizes.length]) := ⟨by rw [hX]; exact World.alloc_heap_new w2 _⟩
  have HB3 : Aside0 (Below w.heap.size w (w2.alloc (.cells #[.slice (some ⟨O, 0, none⟩) sizes.length sizes.length] 51))) := ⟨HB2.out.alloc HB2.out.size _⟩
  have hwX : w.heap.size ≤ X := by rw [hX]; exact HB2.out.size
  rw [← hX] at hOX ⊢
  generalize (w2.alloc (.cells #[.slice (some ⟨O, 0, none⟩) sizes.length sizes.length] 51)) = W3 at HO3 HX3 HB3 ⊢
  clear hX hnn n HO HB2 HP HN HB1
  go_loopw [7, 8, 24] (fun _ _ i wr => ∃ k : Nat, k ≤ sizes.length ∧ i = .int .i64 k ∧ Aside0 (OutIs wr O ((sizes.take k).map (wantsP z0) ++ (List.replicate sizes.length z0).drop k)) ∧ Aside0 (BlkIs wr X 51 #[.slice (some ⟨O, 0, none⟩) sizes.length sizes.length]) ∧ Aside0 (Below w.heap.size w wr)) (fun _ _ i _ => sizes.length - (intOf i).toNat)
  case atStart => exact ⟨0, by omega, rfl, by simpa using HO3, HX3, HB3⟩
  case round =>
    obtain ⟨k, hk, rfl, HO, HX, HB⟩ := hrel
    clear HO3 HX3 HB3
    by_cases hlt : k < sizes.length
    · have hltz : (k : Int) < (sizes.length : Int) := by omega
      obtain ⟨x, hx⟩ : ∃ x, sizes[k]? = some x := ⟨_, List.getElem?_eq_getElem hlt⟩
      obtain ⟨ad, hA, hcells⟩ := H0.out.2.2 (by omega)
      obtain ⟨cs, hcl, hK, hcell⟩ := hcells k x hx
      obtain rfl := k58_open hK
      have hx0 : wr.cell? (ad.add (k * 2)) = some (.int .i64 x.f0) := (HB.out.cell (World.block_lt_of_cell? w _ (hcell 0 _ rfl))).trans (hcell 0 _ rfl)
      have hx1 : wr.cell? ⟨(ad.add (k * 2)).block, (ad.add (k * 2)).off + 1, none⟩ = some (.int .i64 x.f1) := by rw [← add_field _ _ 1 (by omega)]; exact (HB.out.cell (World.block_lt_of_cell? w _ (hcell 1 _ rfl))).trans (hcell 1 _ rfl)
      have hX0 : wr.cell? ⟨X, 0, none⟩ = some (.slice (some ⟨O, 0, none⟩) sizes.length sizes.length) := BlkIs.cell HX.out 0
      have hXl := BlkIs.lt HX.out
      have hOb : ((sizes.take k).map (wantsP z0) ++ (List.replicate sizes.length z0).drop k)[k]? = some z0 := map_at hlt (by rw [List.getElem?_replicate, if_pos hlt])
      have HW := Lib.hid fun (W : World) (h : OutIs W O ((sizes.take k).map (wantsP z0) ++ (List.replicate sizes.length z0).drop k)) => wants_any O k _ z0 x.f0 x.f1 W h hOb
      have HS := Lib.hid (map_step (f := wantsP z0) hx (ys := List.replicate sizes.length z0) (by simp))
      subst hA
      clear hcells hcell hK hcl hx hOb
      go_wp2
      refine wp_only ?_
      go_region_with ((go_at_call 40; refine (HW.out _ (BlkIs.drew (BlkIs.alloc HO.out _))).mono ?_; rintro e w4 ⟨rfl, ho4, hg4⟩))
      all_goals
        have hO4 : Aside0 (OutIs w4 O ((sizes.take (k + 1)).map (wantsP z0) ++ (List.replicate sizes.length z0).drop (k + 1))) := ⟨by have h := ho4; rw [show wantsP z0 ⟨x.f0, x.f1⟩ = wantsP z0 x from rfl, HS.out] at h; exact h⟩
        have hX4 : Aside0 (BlkIs w4 X 51 #[.slice (some ⟨O, 0, none⟩) sizes.length sizes.length]) := ⟨BlkIs.grown (BlkIs.drew (BlkIs.alloc HX.out _)) hg4 (by simp; omega)⟩
        have hB4 : Aside0 (Below w.heap.size w w4) := ⟨((HB.out.alloc HB.out.size _).drew).grown hg4 (by have := HB.out.size; simp; omega) (fun q hq => by cases hq; exact HOw)⟩
        clear ho4 hg4 HO HX HB HW HS
        simp only [onlyNormal, Exit.inBlock, Exit.then]
        go_wp2
        go_roundw
        case rel => exact ⟨k + 1, by omega, by go_num, hO4, hX4, hB4⟩
        case measure => simp [intOf]; omega
    · have hkl : k = sizes.length := by omega
      subst hkl
      have HO2 : Aside0 (OutIs wr O (sizes.map (wantsP z0))) := ⟨by have := HO.out; simpa using this⟩
      clear HO
      have hX0 : wr.cell? ⟨X, 0, none⟩ = some (.slice (some ⟨O, 0, none⟩) sizes.length sizes.length) := BlkIs.cell HX.out 0
      have hXl := BlkIs.lt HX.out
      go_wp2_with (go_at_call 41; refine (own_any l A1 c1 _).mono ?_; rintro e w5 ⟨rfl, rfl⟩)
      have hb2 := wr.heap.size
      have HX2 : Aside0 (BlkIs (wr.alloc (.cells #[.slice A1 l.length c1] 48)) X 51 #[.slice (some ⟨O, 0, none⟩) sizes.length sizes.length]) := ⟨BlkIs.alloc HX.out _⟩
      have HO3 : Aside0 (OutIs (wr.alloc (.cells #[.slice A1 l.length c1] 48)) O (sizes.map (wantsP z0))) := ⟨BlkIs.alloc HO2.out _⟩
      have HB2 : Aside0 (Below w.heap.size w (wr.alloc (.cells #[.slice A1 l.length c1] 48))) := ⟨HB.out.alloc HB.out.size _⟩
      have HC2 : Aside0 (BlkIs (wr.alloc (.cells #[.slice A1 l.length c1] 48)) wr.heap.size 48 #[.slice A1 l.length c1]) := ⟨World.alloc_heap_new wr _⟩
      refine wp_range_plain (own1_iter l wr.heap.size A1 c1 HC1.out) (enters_of Try.func56 (by kernel_rfl) rfl) rfl (fun _ => rfl)
        (fun (pre : List S60) W => OutIs W O (pre.foldl addP (sizes.map (wantsP z0))) ∧ BlkIs W X 51 #[.slice (some ⟨O, 0, none⟩) sizes.length sizes.length] ∧ BlkIs W wr.heap.size 48 #[.slice A1 l.length c1] ∧ Below w.heap.size w W)
        (fun c W => False)
        (Stab.and (Stab.blk O _ (fun (pre : List S60) => ((pre.foldl addP (sizes.map (wantsP z0))).flatMap bandC).toArray)) (Stab.and (Stab.blk X _ (fun _ => #[.slice (some ⟨O, 0, none⟩) sizes.length sizes.length])) (Stab.and (Stab.blk wr.heap.size _ (fun _ => #[.slice A1 l.length c1])) (Stab.below (Nat.le_refl _) (by have := HB.out.size; simp; omega)))))
        (Stab.pure _ (fun _ => False))
        (fun pre A h => ⟨BlkIs.cell h.2.2.1 0, Kd.C_below H1.out h.2.2.2⟩) ⟨HO3.out, HX2.out, HC2.out, HB2.out⟩ ?round ?done ?stop
      case stop => exact fun _ _ _ _ h => h.elim
      case done =>
        rintro D W hD ⟨ho, hX, hb, hB⟩ hbook hd
        obtain ⟨ys, hys⟩ : ∃ ys, ys = (l.filter ownB).foldl addP (sizes.map (wantsP z0)) := ⟨_, rfl⟩
        rw [← hys] at ho
        have hyl : ys.length = sizes.length := by rw [hys, foldl_addP_len, List.length_map]
        have HYS := Lib.hid hys
        have HOO : Aside0 (OutIs W O ys) := ⟨ho⟩
        have HXX : Aside0 (BlkIs W X 51 #[.slice (some ⟨O, 0, none⟩) sizes.length sizes.length]) := ⟨hX⟩
        have HBB : Aside0 (Below w.heap.size w W) := ⟨hB⟩
        have HDD : Aside0 (W.heap[D]? = W.heap[D]?) := ⟨rfl⟩
        have hDO : ¬ D = O := by
          intro e
          subst e
          have := (show W.heap[D]? = _ from ho).symm.trans hd
          cases this
        have hX0 : W.cell? ⟨X, 0, none⟩ = some (.slice (some ⟨O, 0, none⟩) sizes.length sizes.length) := BlkIs.cell hX 0
        have hXl2 := BlkIs.lt hX
        obtain ⟨dd, hdd⟩ : ∃ dd, W.heap[D]? = some dd := ⟨_, hd⟩
        have hdd2 := hdd.symm.trans hd
        have HDI := Lib.hid hdd2
        have HDA : Aside0 (W.heap[D]? = some dd) := ⟨hdd⟩
        clear hys hdd hdd2 hd HDD ho hX hB hb hbook HX2 HO3 HB2 HC2
        go_wp2
        go_loopw [12, 68] (fun _ i wr => ∃ k : Nat, k ≤ sizes.length ∧ i = .int .i64 k ∧ Aside0 (OutIs wr O ((ys.take k).map settlesP ++ ys.drop k)) ∧ Aside0 (BlkIs wr X 51 #[.slice (some ⟨O, 0, none⟩) sizes.length sizes.length]) ∧ Aside0 (Below w.heap.size w wr) ∧ Aside0 (wr.heap[D]? = some dd)) (fun _ i _ => sizes.length - (intOf i).toNat)
        case atStart => exact ⟨0, by omega, rfl, by simpa using HOO, HXX, HBB, HDA⟩
        case round =>
          obtain ⟨k, hk, rfl, HO4, HX4, HB4, HD4⟩ := hrel
          clear HOO HXX HBB HDA hX0
          by_cases hlt : k < sizes.length
          · have hltz : (k : Int) < (sizes.length : Int) := by omega
            obtain ⟨y, hy⟩ : ∃ y, ys[k]? = some y := ⟨_, List.getElem?_eq_getElem (by omega)⟩
            have hX0 : wr.cell? ⟨X, 0, none⟩ = some (.slice (some ⟨O, 0, none⟩) sizes.length sizes.length) := BlkIs.cell HX4.out 0
            have hXl := BlkIs.lt HX4.out
            have HW := Lib.hid (settles_any O k _ y wr HO4.out (map_at (f := settlesP) (xs := ys) (by omega) hy))
            have HS := Lib.hid (map_step (f := settlesP) hy (ys := ys) rfl)
            clear hy
            go_wp2_with ((go_at_call 42; refine HW.out.mono ?_; rintro e w4 ⟨rfl, ho4, hg4⟩))
            have hO5 : Aside0 (OutIs w4 O ((ys.take (k + 1)).map settlesP ++ ys.drop (k + 1))) := ⟨by have h := ho4; rw [HS.out] at h; exact h⟩
            have hX5 : Aside0 (BlkIs w4 X 51 #[.slice (some ⟨O, 0, none⟩) sizes.length sizes.length]) := ⟨BlkIs.grown HX4.out hg4 (by simp; omega)⟩
            have hB5 : Aside0 (Below w.heap.size w w4) := ⟨HB4.out.grown hg4 (by have := HB4.out.size; omega) (fun q hq => by cases hq; exact HOw)⟩
            have hD5 : Aside0 (w4.heap[D]? = some dd) := ⟨(hg4.block D (Array.getElem?_eq_some_iff.1 HD4.out).1 (by simp; exact hDO)).trans HD4.out⟩
            clear ho4 hg4 HO4 HX4 HB4 HD4 HW HS
            go_wp2
            go_roundw
            case rel => exact ⟨k + 1, by omega, by go_num, hO5, hX5, hB5, hD5⟩
            case measure => simp [intOf]; omega
          · have hkl : k = sizes.length := by omega
            subst hkl
            have hX0 : wr.cell? ⟨X, 0, none⟩ = some (.slice (some ⟨O, 0, none⟩) sizes.length sizes.length) := BlkIs.cell HX4.out 0
            have hXl := BlkIs.lt HX4.out
            go_wp2
            have hd := HD4.out
            rw [HDI.out] at hd
            refine leaves_marks (v := .tuple #[.slice (some ⟨O, 0, none⟩) sizes.length sizes.length, .int .i64 0]) (B := w.heap.size) ⟨[D], rfl, by simp, by have := HB.out.size; simp at hD ⊢; exact ⟨by omega, hd⟩⟩ (fun W' hs => ⟨?_, ?_⟩)
            · simp [results, Try.results28]
            · have hlen : (ys.map settlesP).length = sizes.length := by rw [List.length_map, hyl]
              have hO9 : OutIs wr O (ys.map settlesP) := by
                have h := HO4.out
                rw [← hyl, List.take_length, List.drop_length, List.append_nil] at h
                exact h
              have h := outIs_R (w := W') (base := w.heap.size) (hs.blk hO9) HOw (by omega)
              rw [hlen] at h
              exact ⟨_, rfl, by unfold bandsP; rw [← HYS.out]; exact h, hs.stab _ (Stab.below (Nat.le_refl _) (Nat.le_refl _)) HB4.out⟩
      case round =>
        rintro lp pre x rest W hx hl ⟨ho, hX, hb, hB⟩
        obtain ⟨hown, hneed⟩ : ownB x = true ∧ needB sizes.length x = true := by
          have hm : x ∈ l.filter ownB := by rw [hx]; simp
          have hr := HR.out
          simp only [rightB, Bool.and_eq_true, List.all_eq_true] at hr
          exact ⟨(List.mem_filter.1 hm).2, hr.2 x (List.mem_filter.1 hm).1⟩
        obtain ⟨⟨p0, p1, p2, p3, p4⟩, mn, mx, ⟨wk, wn⟩⟩ := x
        obtain ⟨h2a, h2b⟩ : 0 ≤ p2 ∧ p2 < sizes.length := by simp [needB] at hneed; omega
        obtain ⟨j, rfl⟩ := Int.eq_ofNat_of_zero_le h2a
        have hj : j < sizes.length := by omega
        obtain ⟨bd, hbd⟩ : ∃ bd, (pre.foldl addP (sizes.map (wantsP z0)))[j]? = some bd := ⟨_, List.getElem?_eq_getElem (by rw [foldl_addP_len]; simpa using hj)⟩
        have HBD := Lib.hid hbd
        have HO := Lib.hid ho
        have HXX := Lib.hid hX
        have HBB := Lib.hid hB
        have HCC := Lib.hid hb
        have HX := Lib.hid hx
        clear hbd ho hX hB hb hx hown hneed
        dsimp only [ownV, needC]
        gi_wp2
        refine ⟨by (repeat (first | (with_reducible exact KeepBook.refl _) | (with_reducible refine KeepBook.alloc ?_ _) | (with_reducible refine KeepBook.setCell ?_ _ _) | (with_reducible refine KeepBook.drew ?_) | (refine KeepBook.below ?_ (by assumption)))), ?_⟩
        rintro W2 hs _
        obtain ⟨bs, hbs⟩ : ∃ bs, bs = pre.foldl addP (sizes.map (wantsP z0)) := ⟨_, rfl⟩
        have HBS := Lib.hid hbs
        rw [← hbs] at HO HBD
        clear hbs
        have hO2 : OutIs W2 O bs := hs.blk (BlkIs.alloc HO.out _)
        have hXb : BlkIs W2 X 51 #[.slice (some ⟨O, 0, none⟩) sizes.length sizes.length] := hs.blk (BlkIs.alloc HXX.out _)
        have hNb : BlkIs W2 W.heap.size 60 #[.int .i64 p0, .int .i64 p1, .int .i64 j, .int .i64 p3, .int .i64 p4, .int .i64 mn, .int .i64 mx, .int .i64 wk, .int .i64 wn] := hs.blk (World.alloc_heap_new W _)
        have HCB := Lib.hid (show BlkIs W2 wr.heap.size 48 #[.slice A1 l.length c1] from hs.blk (BlkIs.alloc HCC.out _))
        have HBW := Lib.hid (show Below w.heap.size w W2 from hs.below (HBB.out.alloc HBB.out.size _) (Nat.le_refl _) (by have := HB.out.size; simp; omega))
        have hX0 : W2.cell? ⟨X, 0, none⟩ = some (.slice (some ⟨O, 0, none⟩) sizes.length sizes.length) := BlkIs.cell hXb 0
        have n5 : W2.cell? ⟨W.heap.size, 5, none⟩ = some (.int .i64 mn) := BlkIs.cell hNb 5
        have n6 : W2.cell? ⟨W.heap.size, 6, none⟩ = some (.int .i64 mx) := BlkIs.cell hNb 6
        have n7 : W2.cell? ⟨W.heap.size, 7, none⟩ = some (.int .i64 wk) := BlkIs.cell hNb 7
        have n8 : W2.cell? ⟨W.heap.size, 8, none⟩ = some (.int .i64 wn) := BlkIs.cell hNb 8
        have o0 : W2.cell? ⟨O, j * 4, none⟩ = some (.int .i64 bd.f0) := hO2.at_ HBD.out 0 (by decide)
        have o1 : W2.cell? ⟨O, j * 4 + 1, none⟩ = some (.int .i64 bd.f1) := hO2.at_ HBD.out 1 (by decide)
        have g0 : W2.frozen? ⟨O, j * 4, none⟩ = false := BlkIs.frozen hO2 _
        have g1 : W2.frozen? ⟨O, j * 4 + 1, none⟩ = false := BlkIs.frozen hO2 _
        have hjz : (j : Int) < (sizes.length : Int) := by omega
        have HO2 := Lib.hid hO2
        have HXB := Lib.hid hXb
        have HNB := Lib.hid hNb
        have hOlt := BlkIs.lt hO2
        have hNlt := BlkIs.lt hNb
        have hON : O < W.heap.size := BlkIs.lt HO.out
        clear hO2 hXb hNb hs
        gi_wp2
        have HS : (fun W : World => W.cell? ⟨W.heap.size, 5, none⟩ = W.cell? ⟨W.heap.size, 5, none⟩) W2.drew := rfl
        clear HS
        obtain ⟨N, hNe⟩ : ∃ N, N = W.heap.size := ⟨_, rfl⟩
        rw [← hNe] at n5 n6 n7 n8 HNB hNlt hON ⊢
        clear hNe
        have hON' : ¬ O = N := by omega
        have HS : (fun V : World => V.cell? ⟨N, 5, none⟩ = some (.int .i64 mn) ∧ V.cell? ⟨N, 6, none⟩ = some (.int .i64 mx)) W2.drew := ⟨n5, n6⟩
        have hsA := fun v : Value => (⟨(World.cell?_setCell_far W2 ⟨O, j * 4, none⟩ ⟨N, 5, none⟩ v hON').trans n5, (World.cell?_setCell_far W2 ⟨O, j * 4, none⟩ ⟨N, 6, none⟩ v hON').trans n6⟩ : (W2.setCell ⟨O, j * 4, none⟩ v).cell? ⟨N, 5, none⟩ = some (.int .i64 mn) ∧ (W2.setCell ⟨O, j * 4, none⟩ v).cell? ⟨N, 6, none⟩ = some (.int .i64 mx))
        have hsB := fun v v' : Value => (⟨(World.cell?_setCell_far (W2.setCell ⟨O, j * 4, none⟩ v) ⟨O, j * 4 + 1, none⟩ ⟨N, 5, none⟩ v' hON').trans (hsA v).1, (World.cell?_setCell_far (W2.setCell ⟨O, j * 4, none⟩ v) ⟨O, j * 4 + 1, none⟩ ⟨N, 6, none⟩ v' hON').trans (hsA v).2⟩ : _ ∧ _)
        refine beginH (fun V : World => V.cell? ⟨N, 5, none⟩ = some (.int .i64 mn) ∧ V.cell? ⟨N, 6, none⟩ = some (.int .i64 mx)) (by kernel_rfl) ?_
        (refine takeH (i := 0) (v := ?_) rfl (by kernel_rfl) (by kernel_rfl) (by kernel_rfl) (by kernel_rfl) (fun _ _ _ h => h) ⟨Or.inl ⟨by rfl, ?_⟩, fun _ => rfl⟩ HS ?_; rotate_left; focus (rintro wS ⟨s1, s2⟩; go_simp; try (with_reducible rfl)); (try simp only [Act.put, List.setIfInBounds_toArray, List.set_cons_zero, List.set_cons_succ]))
        (refine takeH (i := 1) (v := ?_) rfl (by kernel_rfl) (by kernel_rfl) (by kernel_rfl) (by kernel_rfl) (fun _ _ _ h => h) ⟨Or.inl ⟨by rfl, ?_⟩, fun _ => rfl⟩ HS ?_; rotate_left; focus (rintro wS ⟨s1, s2⟩; go_simp; try (with_reducible rfl)); (try simp only [Act.put, List.setIfInBounds_toArray, List.set_cons_zero, List.set_cons_succ]))
        (refine takeH (i := 2) (v := ?_) rfl (by kernel_rfl) (by kernel_rfl) (by kernel_rfl) (by kernel_rfl) (fun _ _ _ h => h) ⟨Or.inl ⟨by rfl, ?_⟩, fun _ => rfl⟩ HS ?_; rotate_left; focus (rintro wS ⟨s1, s2⟩; go_simp; try (with_reducible rfl)); (try simp only [Act.put, List.setIfInBounds_toArray, List.set_cons_zero, List.set_cons_succ]))
        (refine takeH (i := 3) (v := ?_) rfl (by kernel_rfl) (by kernel_rfl) (by kernel_rfl) (by kernel_rfl) (fun _ _ _ h => h) ⟨Or.inl ⟨by rfl, ?_⟩, fun _ => rfl⟩ HS ?_; rotate_left; focus (rintro wS ⟨s1, s2⟩; go_simp; try (with_reducible rfl)); (try simp only [Act.put, List.setIfInBounds_toArray, List.set_cons_zero, List.set_cons_succ]))
        (refine takeH (i := 4) (v := ?_) rfl (by kernel_rfl) (by kernel_rfl) (by kernel_rfl) (by kernel_rfl) (fun _ _ _ h => h) ⟨Or.inl ⟨by rfl, ?_⟩, fun _ => rfl⟩ HS ?_; rotate_left; focus (rintro wS ⟨s1, s2⟩; go_simp; try (with_reducible rfl)); (try simp only [Act.put, List.setIfInBounds_toArray, List.set_cons_zero, List.set_cons_succ]))
        (refine takeH (i := 6) (v := ?_) rfl (by kernel_rfl) (by kernel_rfl) (by kernel_rfl) (by kernel_rfl) (fun _ _ _ h => h) ⟨Or.inl ⟨by rfl, ?_⟩, fun _ => rfl⟩ HS ?_; rotate_left; focus (rintro wS ⟨s1, s2⟩; go_simp; try (with_reducible rfl)); (try simp only [Act.put, List.setIfInBounds_toArray, List.set_cons_zero, List.set_cons_succ]))
        (refine takeH (i := 7) (v := ?_) rfl (by kernel_rfl) (by kernel_rfl) (by kernel_rfl) (by kernel_rfl) (fun _ _ _ h => h) ⟨Or.inl ⟨by rfl, ?_⟩, fun _ => rfl⟩ HS ?_; rotate_left; focus (rintro wS ⟨s1, s2⟩; go_simp; try (with_reducible rfl)); (try simp only [Act.put, List.setIfInBounds_toArray, List.set_cons_zero, List.set_cons_succ]))
        (refine takeH (i := 9) (v := ?_) rfl (by kernel_rfl) (by kernel_rfl) (by kernel_rfl) (by kernel_rfl) (fun _ _ _ h => h) ⟨Or.inl ⟨by rfl, ?_⟩, fun _ => rfl⟩ HS ?_; rotate_left; focus (rintro wS ⟨s1, s2⟩; go_simp; try (with_reducible rfl)); (try simp only [Act.put, List.setIfInBounds_toArray, List.set_cons_zero, List.set_cons_succ]))
        (refine takeH (i := 10) (v := ?_) rfl (by kernel_rfl) (by kernel_rfl) (by kernel_rfl) (by kernel_rfl) (fun _ _ _ h => h) ⟨Or.inl ⟨by rfl, ?_⟩, fun _ => rfl⟩ HS ?_; rotate_left; focus (rintro wS ⟨s1, s2⟩; go_simp; try (with_reducible rfl)); (try simp only [Act.put, List.setIfInBounds_toArray, List.set_cons_zero, List.set_cons_succ]))
        (refine takeH (i := 11) (v := ?_) rfl (by kernel_rfl) (by kernel_rfl) (by kernel_rfl) (by kernel_rfl) (fun _ _ _ h => h) ⟨Or.inl ⟨by rfl, ?_⟩, fun _ => rfl⟩ HS ?_; rotate_left; focus (rintro wS ⟨s1, s2⟩; go_simp; try (with_reducible rfl)); (try simp only [Act.put, List.setIfInBounds_toArray, List.set_cons_zero, List.set_cons_succ]))
        (refine takeH (i := 13) (v := ?_) rfl (by kernel_rfl) (by kernel_rfl) (by kernel_rfl) (by kernel_rfl) (fun _ _ _ h => h) ⟨Or.inl ⟨by rfl, ?_⟩, fun _ => rfl⟩ HS ?_; rotate_left; focus (rintro wS ⟨s1, s2⟩; go_simp; try (with_reducible rfl)); (try simp only [Act.put, List.setIfInBounds_toArray, List.set_cons_zero, List.set_cons_succ]))
        (refine takeH (i := 14) (v := ?_) rfl (by kernel_rfl) (by kernel_rfl) (by kernel_rfl) (by kernel_rfl) (fun _ _ _ h => h) ⟨Or.inl ⟨by rfl, ?_⟩, fun _ => rfl⟩ HS ?_; rotate_left; focus (rintro wS ⟨s1, s2⟩; go_simp; try (with_reducible rfl)); (try simp only [Act.put, List.setIfInBounds_toArray, List.set_cons_zero, List.set_cons_succ]))
        (refine twoH (i := 5) (j := 12) rfl rfl (by kernel_rfl) (fun K hK => ?_) (fun K hK => ?_))
        · go_simp
          (refine hK _ _ ⟨HS, ?_⟩; clear hK K; (try simp only [Act.put, List.setIfInBounds_toArray, List.set_cons_zero, List.set_cons_succ]))
          (refine takeH (i := 8) (v := ?_) rfl (by kernel_rfl) (by kernel_rfl) (by kernel_rfl) (by kernel_rfl) (fun _ _ _ h => h) ⟨Or.inl ⟨by rfl, ?_⟩, fun _ => rfl⟩ HS ?_; rotate_left; focus (rintro wS ⟨s1, s2⟩; go_simp; try (with_reducible rfl)); (try simp only [Act.put, List.setIfInBounds_toArray, List.set_cons_zero, List.set_cons_succ]))
          (refine oneH (i := 12) rfl (by kernel_rfl) (fun K hK => ?_); go_simp)
          (refine hK _ _ ⟨HS, ?_⟩; clear hK K; (try simp only [Act.put, List.setIfInBounds_toArray, List.set_cons_zero, List.set_cons_succ]))
          (refine takeH (i := 15) (v := ?_) rfl (by kernel_rfl) (by kernel_rfl) (by kernel_rfl) (by kernel_rfl) (fun _ _ _ h => h) ⟨Or.inl ⟨by rfl, ?_⟩, fun _ => rfl⟩ HS ?_; rotate_left; focus (rintro wS ⟨s1, s2⟩; go_simp; try (with_reducible rfl)); (try simp only [Act.put, List.setIfInBounds_toArray, List.set_cons_zero, List.set_cons_succ]))
          (refine takeH (i := 16) (v := ?_) rfl (by kernel_rfl) (by kernel_rfl) (by kernel_rfl) (by kernel_rfl) (fun _ _ _ h => h) ⟨Or.inl ⟨by rfl, ?_⟩, fun _ => rfl⟩ HS ?_; rotate_left; focus (rintro wS ⟨s1, s2⟩; go_simp; try (with_reducible rfl)); (try simp only [Act.put, List.setIfInBounds_toArray, List.set_cons_zero, List.set_cons_succ]))
          (refine takeH (i := 17) (v := ?_) rfl (by kernel_rfl) (by kernel_rfl) (by kernel_rfl) (by kernel_rfl) (fun _ _ _ h => h) ⟨Or.inl ⟨by rfl, ?_⟩, fun _ => rfl⟩ HS ?_; rotate_left; focus (rintro wS ⟨s1, s2⟩; go_simp; try (with_reducible rfl)); (try simp only [Act.put, List.setIfInBounds_toArray, List.set_cons_zero, List.set_cons_succ]))
          (refine oneH (i := 18) rfl (by kernel_rfl) (fun K hK => ?_); go_simp)
          (refine hK _ _ ⟨(hsA _), ?_⟩; clear hK K; (try simp only [Act.put, List.setIfInBounds_toArray, List.set_cons_zero, List.set_cons_succ]))
          (refine takeH (i := 19) (v := ?_) rfl (by kernel_rfl) (by kernel_rfl) (by kernel_rfl) (by kernel_rfl) (fun _ _ _ h => h) ⟨Or.inl ⟨by rfl, ?_⟩, fun _ => rfl⟩ (hsA _) ?_; rotate_left; focus (rintro wS ⟨s1, s2⟩; go_simp; try (with_reducible rfl)); (try simp only [Act.put, List.setIfInBounds_toArray, List.set_cons_zero, List.set_cons_succ]))
          (refine takeH (i := 20) (v := ?_) rfl (by kernel_rfl) (by kernel_rfl) (by kernel_rfl) (by kernel_rfl) (fun _ _ _ h => h) ⟨Or.inl ⟨by rfl, ?_⟩, fun _ => rfl⟩ (hsA _) ?_; rotate_left; focus (rintro wS ⟨s1, s2⟩; go_simp; try (with_reducible rfl)); (try simp only [Act.put, List.setIfInBounds_toArray, List.set_cons_zero, List.set_cons_succ]))
          (refine oneH (i := 21) rfl (by kernel_rfl) (fun K hK => ?_); go_simp)
          (refine hK _ _ ⟨(hsB _ _), ?_⟩; clear hK K; (try simp only [Act.put, List.setIfInBounds_toArray, List.set_cons_zero, List.set_cons_succ]))
          (refine doneH (by kernel_rfl) ?_ _)
          simp only [Exit.then]
          rw [mx_if, mx_if]
          have hO5 := OutIs.put (b' := { bd with f0 := max bd.f0 mn }) HO2.out HBD.out 0 (by decide) (.int .i64 (max bd.f0 mn)) rfl
          have hO6 := OutIs.put (b' := { bd with f0 := max bd.f0 mn, f1 := max bd.f1 mx }) hO5 (List.getElem?_set_self (List.getElem?_eq_some_iff.1 HBD.out).1) 1 (by decide) (.int .i64 (max bd.f1 mx)) rfl
          rw [List.set_set] at hO6
          have HO6 := Lib.hid hO6
          have HB6 : Aside0 (Below w.heap.size w ((W2.setCell ⟨O, j * 4, none⟩ (.int .i64 (max bd.f0 mn))).setCell ⟨O, j * 4 + 1, none⟩ (.int .i64 (max bd.f1 mx)))) := ⟨(HBW.out.setCell (p := ⟨O, j * 4, none⟩) HOw _).setCell (p := ⟨O, j * 4 + 1, none⟩) HOw _⟩
          have hX6 := BlkIs.other (BlkIs.other HXB.out (p := ⟨O, j * 4, none⟩) (by simp; omega) (.int .i64 (max bd.f0 mn))) (p := ⟨O, j * 4 + 1, none⟩) (by simp; omega) (.int .i64 (max bd.f1 mx))
          have HX6 := Lib.hid hX6
          have hK6 : KeepBook W2 ((W2.setCell ⟨O, j * 4, none⟩ (.int .i64 (max bd.f0 mn))).setCell ⟨O, j * 4 + 1, none⟩ (.int .i64 (max bd.f1 mx))) := ((KeepBook.refl W2).setCell _ _).setCell _ _
          have HK6 := Lib.hid hK6
          have hC6 := BlkIs.other (BlkIs.other HCB.out (p := ⟨O, j * 4, none⟩) (by simp; omega) (.int .i64 (max bd.f0 mn))) (p := ⟨O, j * 4 + 1, none⟩) (by simp; omega) (.int .i64 (max bd.f1 mx))
          have HC6 := Lib.hid hC6
          have m7 := (World.cell?_setCell_far (W2.setCell ⟨O, j * 4, none⟩ (.int .i64 (max bd.f0 mn))) ⟨O, j * 4 + 1, none⟩ ⟨N, 7, none⟩ (.int .i64 (max bd.f1 mx)) hON').trans ((World.cell?_setCell_far W2 ⟨O, j * 4, none⟩ ⟨N, 7, none⟩ (.int .i64 (max bd.f0 mn)) hON').trans n7)
          have m8 := (World.cell?_setCell_far (W2.setCell ⟨O, j * 4, none⟩ (.int .i64 (max bd.f0 mn))) ⟨O, j * 4 + 1, none⟩ ⟨N, 8, none⟩ (.int .i64 (max bd.f1 mx)) hON').trans ((World.cell?_setCell_far W2 ⟨O, j * 4, none⟩ ⟨N, 8, none⟩ (.int .i64 (max bd.f0 mn)) hON').trans n8)
          have hz6 : ((W2.setCell ⟨O, j * 4, none⟩ (.int .i64 (max bd.f0 mn))).setCell ⟨O, j * 4 + 1, none⟩ (.int .i64 (max bd.f1 mx))).heap.size = W2.heap.size := by simp
          have HZ6 := Lib.hid hz6
          clear hO5 hO6 hX6 hK6 hC6 hz6 HS hsA hsB
          generalize ((W2.setCell ⟨O, j * 4, none⟩ (.int .i64 (max bd.f0 mn))).setCell ⟨O, j * 4 + 1, none⟩ (.int .i64 (max bd.f1 mx))) = W6 at HO6 HB6 HX6 HK6 HC6 m7 m8 HZ6 ⊢
          have hW6 := wants_any O j (bs.set j { bd with f0 := max bd.f0 mn, f1 := max bd.f1 mx }) { bd with f0 := max bd.f0 mn, f1 := max bd.f1 mx } wk wn W6.drew (show OutIs W6.drew O _ from BlkIs.drew HO6.out) (List.getElem?_set_self (List.getElem?_eq_some_iff.1 HBD.out).1)
          have HW6 := Lib.hid hW6
          clear hW6
          gi_wp2_with (gi_at_call 40; (refine (CallsIn.inRound _ (callsIn_wide.2 HW6.out)).mono ?_); rintro e w8 ⟨rfl, ho8, hg8⟩)
          refine ⟨HK6.out.drew.grown hg8 (fun jj o e h => by cases e; have := (show W6.drew.heap[O]? = _ from HO6.out).symm.trans h; cases this; rfl), ?_, (BlkIs.drew HX6.out).grown hg8 (by simp; omega), (BlkIs.drew HC6.out).grown hg8 (by simp; omega), (HB6.out.drew).grown hg8 (by have := HB6.out.size; simp; omega) (fun q hq => by cases hq; exact HOw)⟩
          rw [List.foldl_append, List.foldl_cons, List.foldl_nil, ← HBS.out]
          have h := ho8
          rw [List.set_set] at h
          unfold addP
          simp only [Int.toNat_natCast, HBD.out]
          exact h
        · go_simp
          (refine hK _ _ ⟨HS, ?_⟩; clear hK K; (try simp only [Act.put, List.setIfInBounds_toArray, List.set_cons_zero, List.set_cons_succ]))
          (refine takeH (i := 15) (v := ?_) rfl (by kernel_rfl) (by kernel_rfl) (by kernel_rfl) (by kernel_rfl) (fun _ _ _ h => h) ⟨Or.inl ⟨by rfl, ?_⟩, fun _ => rfl⟩ HS ?_; rotate_left; focus (rintro wS ⟨s1, s2⟩; go_simp; try (with_reducible rfl)); (try simp only [Act.put, List.setIfInBounds_toArray, List.set_cons_zero, List.set_cons_succ]))
          (refine oneH (i := 5) rfl (by kernel_rfl) (fun K hK => ?_); go_simp)
          (refine hK _ _ ⟨HS, ?_⟩; clear hK K; (try simp only [Act.put, List.setIfInBounds_toArray, List.set_cons_zero, List.set_cons_succ]))
          (refine takeH (i := 8) (v := ?_) rfl (by kernel_rfl) (by kernel_rfl) (by kernel_rfl) (by kernel_rfl) (fun _ _ _ h => h) ⟨Or.inl ⟨by rfl, ?_⟩, fun _ => rfl⟩ HS ?_; rotate_left; focus (rintro wS ⟨s1, s2⟩; go_simp; try (with_reducible rfl)); (try simp only [Act.put, List.setIfInBounds_toArray, List.set_cons_zero, List.set_cons_succ]))
          (refine takeH (i := 16) (v := ?_) rfl (by kernel_rfl) (by kernel_rfl) (by kernel_rfl) (by kernel_rfl) (fun _ _ _ h => h) ⟨Or.inl ⟨by rfl, ?_⟩, fun _ => rfl⟩ HS ?_; rotate_left; focus (rintro wS ⟨s1, s2⟩; go_simp; try (with_reducible rfl)); (try simp only [Act.put, List.setIfInBounds_toArray, List.set_cons_zero, List.set_cons_succ]))
          (refine takeH (i := 17) (v := ?_) rfl (by kernel_rfl) (by kernel_rfl) (by kernel_rfl) (by kernel_rfl) (fun _ _ _ h => h) ⟨Or.inl ⟨by rfl, ?_⟩, fun _ => rfl⟩ HS ?_; rotate_left; focus (rintro wS ⟨s1, s2⟩; go_simp; try (with_reducible rfl)); (try simp only [Act.put, List.setIfInBounds_toArray, List.set_cons_zero, List.set_cons_succ]))
          (refine oneH (i := 18) rfl (by kernel_rfl) (fun K hK => ?_); go_simp)
          (refine hK _ _ ⟨(hsA _), ?_⟩; clear hK K; (try simp only [Act.put, List.setIfInBounds_toArray, List.set_cons_zero, List.set_cons_succ]))
          (refine takeH (i := 19) (v := ?_) rfl (by kernel_rfl) (by kernel_rfl) (by kernel_rfl) (by kernel_rfl) (fun _ _ _ h => h) ⟨Or.inl ⟨by rfl, ?_⟩, fun _ => rfl⟩ (hsA _) ?_; rotate_left; focus (rintro wS ⟨s1, s2⟩; go_simp; try (with_reducible rfl)); (try simp only [Act.put, List.setIfInBounds_toArray, List.set_cons_zero, List.set_cons_succ]))
          (refine takeH (i := 20) (v := ?_) rfl (by kernel_rfl) (by kernel_rfl) (by kernel_rfl) (by kernel_rfl) (fun _ _ _ h => h) ⟨Or.inl ⟨by rfl, ?_⟩, fun _ => rfl⟩ (hsA _) ?_; rotate_left; focus (rintro wS ⟨s1, s2⟩; go_simp; try (with_reducible rfl)); (try simp only [Act.put, List.setIfInBounds_toArray, List.set_cons_zero, List.set_cons_succ]))
          (refine oneH (i := 21) rfl (by kernel_rfl) (fun K hK => ?_); go_simp)
          (refine hK _ _ ⟨(hsB _ _), ?_⟩; clear hK K; (try simp only [Act.put, List.setIfInBounds_toArray, List.set_cons_zero, List.set_cons_succ]))
          (refine doneH (by kernel_rfl) ?_ _)
          simp only [Exit.then]
          rw [mx_if, mx_if]
          have hO5 := OutIs.put (b' := { bd with f0 := max bd.f0 mn }) HO2.out HBD.out 0 (by decide) (.int .i64 (max bd.f0 mn)) rfl
          have hO6 := OutIs.put (b' := { bd with f0 := max bd.f0 mn, f1 := max bd.f1 mx }) hO5 (List.getElem?_set_self (List.getElem?_eq_some_iff.1 HBD.out).1) 1 (by decide) (.int .i64 (max bd.f1 mx)) rfl
          rw [List.set_set] at hO6
          have HO6 := Lib.hid hO6
          have HB6 : Aside0 (Below w.heap.size w ((W2.setCell ⟨O, j * 4, none⟩ (.int .i64 (max bd.f0 mn))).setCell ⟨O, j * 4 + 1, none⟩ (.int .i64 (max bd.f1 mx)))) := ⟨(HBW.out.setCell (p := ⟨O, j * 4, none⟩) HOw _).setCell (p := ⟨O, j * 4 + 1, none⟩) HOw _⟩
          have hX6 := BlkIs.other (BlkIs.other HXB.out (p := ⟨O, j * 4, none⟩) (by simp; omega) (.int .i64 (max bd.f0 mn))) (p := ⟨O, j * 4 + 1, none⟩) (by simp; omega) (.int .i64 (max bd.f1 mx))
          have HX6 := Lib.hid hX6
          have hK6 : KeepBook W2 ((W2.setCell ⟨O, j * 4, none⟩ (.int .i64 (max bd.f0 mn))).setCell ⟨O, j * 4 + 1, none⟩ (.int .i64 (max bd.f1 mx))) := ((KeepBook.refl W2).setCell _ _).setCell _ _
          have HK6 := Lib.hid hK6
          have hC6 := BlkIs.other (BlkIs.other HCB.out (p := ⟨O, j * 4, none⟩) (by simp; omega) (.int .i64 (max bd.f0 mn))) (p := ⟨O, j * 4 + 1, none⟩) (by simp; omega) (.int .i64 (max bd.f1 mx))
          have HC6 := Lib.hid hC6
          have m7 := (World.cell?_setCell_far (W2.setCell ⟨O, j * 4, none⟩ (.int .i64 (max bd.f0 mn))) ⟨O, j * 4 + 1, none⟩ ⟨N, 7, none⟩ (.int .i64 (max bd.f1 mx)) hON').trans ((World.cell?_setCell_far W2 ⟨O, j * 4, none⟩ ⟨N, 7, none⟩ (.int .i64 (max bd.f0 mn)) hON').trans n7)
          have m8 := (World.cell?_setCell_far (W2.setCell ⟨O, j * 4, none⟩ (.int .i64 (max bd.f0 mn))) ⟨O, j * 4 + 1, none⟩ ⟨N, 8, none⟩ (.int .i64 (max bd.f1 mx)) hON').trans ((World.cell?_setCell_far W2 ⟨O, j * 4, none⟩ ⟨N, 8, none⟩ (.int .i64 (max bd.f0 mn)) hON').trans n8)
          have hz6 : ((W2.setCell ⟨O, j * 4, none⟩ (.int .i64 (max bd.f0 mn))).setCell ⟨O, j * 4 + 1, none⟩ (.int .i64 (max bd.f1 mx))).heap.size = W2.heap.size := by simp
          have HZ6 := Lib.hid hz6
          clear hO5 hO6 hX6 hK6 hC6 hz6 HS hsA hsB
          generalize ((W2.setCell ⟨O, j * 4, none⟩ (.int .i64 (max bd.f0 mn))).setCell ⟨O, j * 4 + 1, none⟩ (.int .i64 (max bd.f1 mx))) = W6 at HO6 HB6 HX6 HK6 HC6 m7 m8 HZ6 ⊢
          have hW6 := wants_any O j (bs.set j { bd with f0 := max bd.f0 mn, f1 := max bd.f1 mx }) { bd with f0 := max bd.f0 mn, f1 := max bd.f1 mx } wk wn W6.drew (show OutIs W6.drew O _ from BlkIs.drew HO6.out) (List.getElem?_set_self (List.getElem?_eq_some_iff.1 HBD.out).1)
          have HW6 := Lib.hid hW6
          clear hW6
          gi_wp2_with (gi_at_call 40; (refine (CallsIn.inRound _ (callsIn_wide.2 HW6.out)).mono ?_); rintro e w8 ⟨rfl, ho8, hg8⟩)
          refine ⟨HK6.out.drew.grown hg8 (fun jj o e h => by cases e; have := (show W6.drew.heap[O]? = _ from HO6.out).symm.trans h; cases this; rfl), ?_, (BlkIs.drew HX6.out).grown hg8 (by simp; omega), (BlkIs.drew HC6.out).grown hg8 (by simp; omega), (HB6.out.drew).grown hg8 (by have := HB6.out.size; simp; omega) (fun q hq => by cases hq; exact HOw)⟩
          rw [List.foldl_append, List.foldl_cons, List.foldl_nil, ← HBS.out]
          have h := ho8
          rw [List.set_set] at h
          unfold addP
          simp only [Int.toNat_natCast, HBD.out]
          exact h
end Go.Proofs.Ytfoocmmjefdojaa.K
