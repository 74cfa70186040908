/- Layer 8: the reference's Box. -/
import Derived.Test.YteckkphbgfmolaaLnX
import Derived.Test.YteckkphbgfmolaaHeld
namespace Go.Proofs.Yteckkphbgfmolaa.K
open Go.RowKit Go.Proofs.YteckkphbgfmolaaW.PrintWords Go.Proofs.YteckkphbgfmolaaW.PrintLast Go.Proofs.YteckkphbgfmolaaW.PrintMore Go.Proofs.Yteckkphbgfmolaa.Pure
set_option linter.unusedVariables false
set_option linter.unusedSimpArgs false

set_option maxRecDepth 100000 in
set_option maxHeartbeats 4000000 in
theorem refbox_pos (A1 : Option Addr) (c1 : Nat) (A3 : Option Addr) (c3 : Nat) (n : Nd) (width : Int) (w : World) (hr1 : Kd.C (Kd.int .i64) w A1 n.f1.length n.f1) (hc1 : n.f1.length ≤ c1) (hr3 : Kd.C (Kd.int .i64) w A3 n.f3.length n.f3) (hc3 : n.f3.length ≤ c3) (hR : rightB n = true) (hnl : 0 < (linesP n width).length) :
    Calls Try.prog 18 #[.agg (nodeC A1 c1 A3 c3 n), .int .i64 width] w fun e w' => e = .returned (.agg #[.int .i64 (n.f3.foldl mx 0), .int .i64 (wideP n.f3 n.f4 0 n.f3.length), .int .i64 (n.f5 * ((linesP n width).length : Int)), .int .i64 (n.f5 - n.f5 / 4), .bool true]) ∧ Below w.heap.size w w' := by
  have hlen : (Try.prog.info? 35).map (·.size) = some (nodeC A1 c1 A3 c3 n).toList.length := by kernel_rfl
  have HLEN := Lib.hid hlen
  have hbk := fun (V : World) (hV : Below w.heap.size w V) => refbreak_yes A1 c1 A3 c3 n width V (Kd.C_below hr1 hV) hc1 (Kd.C_below hr3 hV) hc3 hR
  have HBRK0 := Lib.hid hbk
  clear hbk
  have hbk := fun (V : World) (hV : Below w.heap.size w V) => rleast_any A1 c1 A3 c3 n V (Kd.C_below hr1 hV) hc1 (Kd.C_below hr3 hV) hc3 hR
  have HLST := Lib.hid hbk
  clear hbk
  have hbk := fun (V : World) (hV : Below w.heap.size w V) => rmost_any A1 c1 A3 c3 n V (Kd.C_below hr1 hV) hc1 (Kd.C_below hr3 hV) hc3 hR
  have HMST := Lib.hid hbk
  clear hbk
  obtain ⟨-, hl, -, h5, -⟩ := right_facts hR
  have hpb : IntKind.i64.wrap (((linesP n width).length : Int) * n.f5) = n.f5 * ((linesP n width).length : Int) := by
    have h1 : 0 ≤ n.f5 * ((linesP n width).length : Int) := Int.mul_nonneg h5.1 (by omega)
    have h2 : n.f5 * ((linesP n width).length : Int) ≤ 1073741824 * 10000 := Int.mul_le_mul h5.2 (by have := Nat.le_trans (linesN_len n.f3 n.f4 width n.f3.length 0) hl; unfold linesP; omega) (by omega) (by omega)
    rw [Int.mul_comm]
    exact IntWalk.i64_in _ (by omega)
  have q33 : (nodeC A1 c1 A3 c3 n)[33]? = some (.int .i64 n.f5) := rfl
  have Q33 := Lib.hid q33
  have hdec : decide (0 < (linesP n width).length) = true := decide_eq_true (by omega)
  clear hr1 hr3 hc1 hc3 hlen q33 hl hR
  generalize nodeC A1 c1 A3 c3 n = cs at *
  generalize n.f3.foldl mx 0 = lst at *
  generalize wideP n.f3 n.f4 0 n.f3.length = mst at *
  generalize n.f5 = hi at *
  have HBRK := Lib.hid (fun V hV => (HBRK0.out V hV).mono (R' := fun e w' => ∃ A c, e = .returned (.slice A (linesP n width).length c) ∧ Below V.heap.size V w') (by rintro e w' ⟨v, rfl, h, hb⟩; obtain ⟨A, c, rfl⟩ := Kd.R_slice h; exact ⟨A, c, by rw [List.length_map], hb⟩))
  clear HBRK0
  generalize (linesP n width).length = nl at *
  generalize hi * (nl : Int) = pr at *
  have HPB := Lib.hid hpb
  clear hnl hpb
  go_enter Try.func18, Try.ntmps18
  go_upto_region 1 with fail
  have hb1 : Below w.heap.size w ((w.alloc (.cells cs 35)).alloc (.cells boxZ 43)) := ((Below.refl _ w).alloc (Nat.le_refl _) _).alloc (by simp) _
  have hk1 : Blk ((w.alloc (.cells cs 35)).alloc (.cells boxZ 43)) w.heap.size 35 cs := Blk.alloc (Blk.new w _ _) _
  have hk2 : Blk ((w.alloc (.cells cs 35)).alloc (.cells boxZ 43)) (w.heap.size + 1) 43 boxZ := by
    have := Blk.new (w.alloc (.cells cs 35)) 43 boxZ
    rwa [World.size_alloc] at this
  have HB := Lib.hid hb1
  have HK1 := Lib.hid hk1
  have HK2 := Lib.hid hk2
  clear hb1 hk1 hk2
  change Code.wp _ _ _ _ ((w.alloc (.cells cs 35)).alloc (.cells boxZ 43)) at ⊢
  generalize ((w.alloc (.cells cs 35)).alloc (.cells boxZ 43)) = W0 at HB HK1 HK2 ⊢
  have hrow := Blk.range HK1.out
  go_upto_region 2 with (first | (refine wpList_load_mid rfl 35 _ rfl _ _ rfl _ _ hrow Try.underlying35 rfl HLEN.out ?_) | (go_at_call 17; refine (HBRK.out _ HB.out).mono ?_; rintro e w1 ⟨A, c, rfl, hb⟩; have n_HK1 := Lib.hid (Blk.below HK1.out hb (Blk.lt HK1.out)); have n_HK2 := Lib.hid (Blk.below HK2.out hb (Blk.lt HK2.out)); have n_HB := Lib.hid (HB.out.trans (hb.mono HB.out.size)); clear hb HB HK1 HK2; have HK1 := n_HK1; have HK2 := n_HK2; have HB := n_HB; clear n_HB n_HK1 n_HK2; replace hrow := Blk.range HK1.out))
  have HSd := Lib.hid (Blk.drew HK1.out)
  have HK2d := Lib.hid (Blk.drew HK2.out)
  have HBd := Lib.hid HB.out.drew
  have hsl : w.heap.size + 1 < w1.drew.heap.size := Blk.lt HK2d.out
  have HSL := Lib.hid hsl
  clear hsl HK1 HK2 HB hrow
  have HK1 := HSd; have HK2 := HK2d; have HB := HBd
  clear HSd HK2d HBd
  refine (wpIn_wide (n := 0)).1 ?_
  refine beginH (fun V : World => V.rangeAt w.heap.size 0 cs.toList ∧ V.cell? ⟨w.heap.size, 33, none⟩ = some (.int .i64 hi)) (by kernel_rfl) ?_
  generalize w1.drew = V0 at HK1 HK2 HB HSL ⊢
  have HS : (fun V : World => V.rangeAt w.heap.size 0 cs.toList ∧ V.cell? ⟨w.heap.size, 33, none⟩ = some (.int .i64 hi)) V0 := ⟨Blk.range HK1.out, (Blk.cell HK1.out 33).trans Q33.out⟩
  (refine takeH (i := 0) (v := .agg cs) rfl (by kernel_rfl) (by kernel_rfl) (by kernel_rfl) (by kernel_rfl) (fun _ _ _ h => h) ⟨yieldsIf_load_mid (by kernel_rfl) 35 _ rfl _ _ rfl cs.toList _ (fun w h => h.1) Try.underlying35 rfl HLEN.out, fun _ => rfl⟩ HS ?_; (try simp only [Act.put, List.setIfInBounds_toArray, List.set_cons_zero, List.set_cons_succ]))
  (refine takeH (i := 2) (v := .agg cs) rfl (by kernel_rfl) (by kernel_rfl) (by kernel_rfl) (by kernel_rfl) (fun _ _ _ h => h) ⟨yieldsIf_load_mid (by kernel_rfl) 35 _ rfl _ _ rfl cs.toList _ (fun w h => h.1) Try.underlying35 rfl HLEN.out, fun _ => rfl⟩ HS ?_; (try simp only [Act.put, List.setIfInBounds_toArray, List.set_cons_zero, List.set_cons_succ]))
  (refine takeH (i := 4) (v := ?_) rfl (by kernel_rfl) (by kernel_rfl) (by kernel_rfl) (by kernel_rfl) (fun _ _ _ h => h) ⟨Or.inl ⟨by rfl, ?_⟩, fun _ => rfl⟩ HS ?_; rotate_left; focus (rintro wS ⟨s1, s2⟩; go_simp; try (with_reducible rfl)); (try simp only [Act.put, List.setIfInBounds_toArray, List.set_cons_zero, List.set_cons_succ]))
  (refine takeH (i := 5) (v := ?_) rfl (by kernel_rfl) (by kernel_rfl) (by kernel_rfl) (by kernel_rfl) (fun _ _ _ h => h) ⟨Or.inl ⟨by rfl, ?_⟩, fun _ => rfl⟩ HS ?_; rotate_left; focus (rintro wS ⟨s1, s2⟩; go_simp; try (with_reducible rfl)); (try simp only [Act.put, List.setIfInBounds_toArray, List.set_cons_zero, List.set_cons_succ]))
  (refine takeH (i := 6) (v := ?_) rfl (by kernel_rfl) (by kernel_rfl) (by kernel_rfl) (by kernel_rfl) (fun _ _ _ h => h) ⟨Or.inl ⟨by rfl, ?_⟩, fun _ => rfl⟩ HS ?_; rotate_left; focus (rintro wS ⟨s1, s2⟩; go_simp; try (with_reducible rfl)); (try simp only [Act.put, List.setIfInBounds_toArray, List.set_cons_zero, List.set_cons_succ]))
  (refine takeH (i := 7) (v := ?_) rfl (by kernel_rfl) (by kernel_rfl) (by kernel_rfl) (by kernel_rfl) (fun _ _ _ h => h) ⟨Or.inl ⟨by rfl, ?_⟩, fun _ => rfl⟩ HS ?_; rotate_left; focus (rintro wS ⟨s1, s2⟩; go_simp; try (with_reducible rfl)); (try simp only [Act.put, List.setIfInBounds_toArray, List.set_cons_zero, List.set_cons_succ]))
  rw [HPB.out]
  refine twoH (i := 1) (j := 9) rfl rfl (by kernel_rfl) (fun K hK => ?_) (fun K hK => ?_)
  · go_simp
    refine (callsIn_wide.2 (HLST.out _ HB.out)).mono ?_
    rintro e v5 ⟨rfl, hb⟩
    dsimp only
    have n_HK1 := Lib.hid (Blk.below HK1.out hb (Blk.lt HK1.out))
    have n_HK2 := Lib.hid (Blk.below HK2.out hb (Blk.lt HK2.out))
    have n_HB := Lib.hid (HB.out.trans (hb.mono HB.out.size))
    clear hb HB HS HK1 HK2
    have HK1 := n_HK1
    have HK2 := n_HK2
    have HB := n_HB
    clear n_HB n_HK1 n_HK2
    have HS : (fun V : World => V.rangeAt w.heap.size 0 cs.toList ∧ V.cell? ⟨w.heap.size, 33, none⟩ = some (.int .i64 hi)) v5 := ⟨Blk.range HK1.out, (Blk.cell HK1.out 33).trans Q33.out⟩
    (refine hK _ _ ⟨HS, ?_⟩; clear hK K; (try simp only [Act.put, List.setIfInBounds_toArray, List.set_cons_zero, List.set_cons_succ]))
    refine twoH (i := 3) (j := 9) rfl rfl (by kernel_rfl) (fun K hK => ?_) (fun K hK => ?_)
    · go_simp
      refine (callsIn_wide.2 (HMST.out _ HB.out)).mono ?_
      rintro e v6 ⟨rfl, hb⟩
      dsimp only
      have n_HK1 := Lib.hid (Blk.below HK1.out hb (Blk.lt HK1.out))
      have n_HK2 := Lib.hid (Blk.below HK2.out hb (Blk.lt HK2.out))
      have n_HB := Lib.hid (HB.out.trans (hb.mono HB.out.size))
      clear hb HB HS HK1 HK2
      have HK1 := n_HK1
      have HK2 := n_HK2
      have HB := n_HB
      clear n_HB n_HK1 n_HK2
      have HS : (fun V : World => V.rangeAt w.heap.size 0 cs.toList ∧ V.cell? ⟨w.heap.size, 33, none⟩ = some (.int .i64 hi)) v6 := ⟨Blk.range HK1.out, (Blk.cell HK1.out 33).trans Q33.out⟩
      (refine hK _ _ ⟨HS, ?_⟩; clear hK K; (try simp only [Act.put, List.setIfInBounds_toArray, List.set_cons_zero, List.set_cons_succ]))
      (refine takeH (i := 8) (v := ?_) rfl (by kernel_rfl) (by kernel_rfl) (by kernel_rfl) (by kernel_rfl) (fun _ _ _ h => h) ⟨Or.inl ⟨by rfl, ?_⟩, fun _ => rfl⟩ HS ?_; rotate_left; focus (rintro wS ⟨s1, s2⟩; go_simp; try (with_reducible rfl)); (try simp only [Act.put, List.setIfInBounds_toArray, List.set_cons_zero, List.set_cons_succ]))
      (refine oneH (i := 9) rfl (by kernel_rfl) (fun K hK => ?_); go_simp)
      have hN : w.heap.size + 1 < v6.heap.size := Blk.lt HK2.out
      have HKN := Lib.hid (Blk.new v6 43 #[.int .i64 0, .int .i64 0, .int .i64 0, .int .i64 0, .bool false])
      have n_HK1 := Lib.hid (Blk.alloc HK1.out (.cells #[.int .i64 0, .int .i64 0, .int .i64 0, .int .i64 0, .bool false] 43))
      have n_HK2 := Lib.hid (Blk.alloc HK2.out (.cells #[.int .i64 0, .int .i64 0, .int .i64 0, .int .i64 0, .bool false] 43))
      have n_HB := Lib.hid (HB.out.alloc HB.out.size (.cells #[.int .i64 0, .int .i64 0, .int .i64 0, .int .i64 0, .bool false] 43))
      clear HK1 HK2 HB HS
      have HK1 := n_HK1; have HK2 := n_HK2; have HB := n_HB
      clear n_HK1 n_HK2 n_HB
      have HS : (fun V : World => V.rangeAt w.heap.size 0 cs.toList ∧ V.cell? ⟨w.heap.size, 33, none⟩ = some (.int .i64 hi)) (v6.alloc (.cells #[.int .i64 0, .int .i64 0, .int .i64 0, .int .i64 0, .bool false] 43)) := ⟨Blk.range HK1.out, (Blk.cell HK1.out 33).trans Q33.out⟩
      (refine hK _ _ ⟨HS, ?_⟩; clear hK K; (try simp only [Act.put, List.setIfInBounds_toArray, List.set_cons_zero, List.set_cons_succ]))
      generalize v6.alloc (.cells #[.int .i64 0, .int .i64 0, .int .i64 0, .int .i64 0, .bool false] 43) = V8 at HKN HK1 HK2 HB HS ⊢
      generalize v6.heap.size = N at *
      have HN := Lib.hid hN
      clear hN
      have y0_ := Blk.cell HKN.out 0
      have y1_ := Blk.cell HKN.out 1
      have y2_ := Blk.cell HKN.out 2
      have y3_ := Blk.cell HKN.out 3
      have y4_ := Blk.cell HKN.out 4
      have f0_ := Blk.frozen HKN.out 0
      have f1_ := Blk.frozen HKN.out 1
      have f2_ := Blk.frozen HKN.out 2
      have f3_ := Blk.frozen HKN.out 3
      have f4_ := Blk.frozen HKN.out 4
      have l0_ := Blk.lt HKN.out
      simp only [List.getElem?_toArray, List.getElem?_cons_zero, List.getElem?_cons_succ] at y0_ y1_ y2_ y3_ y4_
      (refine oneH (i := 10) rfl (by kernel_rfl) (fun K hK => ?_); go_simp)
      clear y0_ y1_ y2_ y3_ y4_ f0_ f1_ f2_ f3_ f4_ l0_
      have n_HKN := Lib.hid (Blk.set' (Blk.set' (Blk.set' (Blk.set' (Blk.set' HKN.out 0 (.int .i64 lst) (cs' := #[.int .i64 lst, .int .i64 0, .int .i64 0, .int .i64 0, .bool false]) rfl) 1 (.int .i64 mst) (cs' := #[.int .i64 lst, .int .i64 mst, .int .i64 0, .int .i64 0, .bool false]) rfl) 2 (.int .i64 pr) (cs' := #[.int .i64 lst, .int .i64 mst, .int .i64 pr, .int .i64 0, .bool false]) rfl) 3 (.int .i64 0) (cs' := #[.int .i64 lst, .int .i64 mst, .int .i64 pr, .int .i64 0, .bool false]) rfl) 4 (.bool false) (cs' := #[.int .i64 lst, .int .i64 mst, .int .i64 pr, .int .i64 0, .bool false]) rfl)
      have n_HK1 := Lib.hid (Blk.other (Blk.other (Blk.other (Blk.other (Blk.other HK1.out (p := ⟨N, 0, none⟩) (by have := HN.out; show w.heap.size ≠ N; omega) (.int .i64 lst)) (p := ⟨N, 1, none⟩) (by have := HN.out; show w.heap.size ≠ N; omega) (.int .i64 mst)) (p := ⟨N, 2, none⟩) (by have := HN.out; show w.heap.size ≠ N; omega) (.int .i64 pr)) (p := ⟨N, 3, none⟩) (by have := HN.out; show w.heap.size ≠ N; omega) (.int .i64 0)) (p := ⟨N, 4, none⟩) (by have := HN.out; show w.heap.size ≠ N; omega) (.bool false))
      have n_HK2 := Lib.hid (Blk.other (Blk.other (Blk.other (Blk.other (Blk.other HK2.out (p := ⟨N, 0, none⟩) (by have := HN.out; show w.heap.size + 1 ≠ N; omega) (.int .i64 lst)) (p := ⟨N, 1, none⟩) (by have := HN.out; show w.heap.size + 1 ≠ N; omega) (.int .i64 mst)) (p := ⟨N, 2, none⟩) (by have := HN.out; show w.heap.size + 1 ≠ N; omega) (.int .i64 pr)) (p := ⟨N, 3, none⟩) (by have := HN.out; show w.heap.size + 1 ≠ N; omega) (.int .i64 0)) (p := ⟨N, 4, none⟩) (by have := HN.out; show w.heap.size + 1 ≠ N; omega) (.bool false))
      have n_HB := Lib.hid (Below.setCell (Below.setCell (Below.setCell (Below.setCell (Below.setCell HB.out (p := ⟨N, 0, none⟩) (by have := HN.out; show w.heap.size ≤ N; omega) (.int .i64 lst)) (p := ⟨N, 1, none⟩) (by have := HN.out; show w.heap.size ≤ N; omega) (.int .i64 mst)) (p := ⟨N, 2, none⟩) (by have := HN.out; show w.heap.size ≤ N; omega) (.int .i64 pr)) (p := ⟨N, 3, none⟩) (by have := HN.out; show w.heap.size ≤ N; omega) (.int .i64 0)) (p := ⟨N, 4, none⟩) (by have := HN.out; show w.heap.size ≤ N; omega) (.bool false))
      clear HKN HK1 HK2 HB HS
      have HKN := n_HKN; have HK1 := n_HK1; have HK2 := n_HK2; have HB := n_HB
      clear n_HKN n_HK1 n_HK2 n_HB
      have HS : (fun V : World => V.rangeAt w.heap.size 0 cs.toList ∧ V.cell? ⟨w.heap.size, 33, none⟩ = some (.int .i64 hi)) _ := ⟨Blk.range HK1.out, (Blk.cell HK1.out 33).trans Q33.out⟩
      (refine hK _ _ ⟨HS, ?_⟩; clear hK K; (try simp only [Act.put, List.setIfInBounds_toArray, List.set_cons_zero, List.set_cons_succ]))
      clear HS
      generalize World.setCell _ ⟨N, 4, none⟩ (.bool false) = W9 at HKN HK1 HK2 HB ⊢
      (refine doneH (by kernel_rfl) ?_ _)
      simp only [Exit.then]
      have y0_ : World.cell? _ ⟨N, 4, none⟩ = some (.bool false) := Blk.cell HKN.out 4
      have f0_ := Blk.frozen HKN.out 4
      have l0_ := Blk.lt HKN.out
      have hrow := Blk.range HK1.out
      go_upto_region 5 with fail
      have n_HKN := Lib.hid (Blk.set' HKN.out 4 (.bool true) (cs' := #[.int .i64 lst, .int .i64 mst, .int .i64 pr, .int .i64 0, .bool true]) rfl)
      have n_HK1 := Lib.hid (Blk.other HK1.out (p := ⟨N, 4, none⟩) (by have := HN.out; show w.heap.size ≠ N; omega) (.bool true))
      have n_HK2 := Lib.hid (Blk.other HK2.out (p := ⟨N, 4, none⟩) (by have := HN.out; show w.heap.size + 1 ≠ N; omega) (.bool true))
      have n_HB := Lib.hid (HB.out.setCell (p := ⟨N, 4, none⟩) (by have := HN.out; show w.heap.size ≤ N; omega) (.bool true))
      clear HKN HK1 HK2 HB hrow
      (try clear y0_ f0_ l0_)
      have HKN := n_HKN; have HK1 := n_HK1; have HK2 := n_HK2; have HB := n_HB
      clear n_HKN n_HK1 n_HK2 n_HB
      generalize World.setCell _ ⟨N, 4, none⟩ (.bool true) = W10 at HKN HK1 HK2 HB ⊢
      have hrow := Blk.range HK1.out
      have y33 : W10.cell? ⟨w.heap.size, 33, none⟩ = some (.int .i64 hi) := (Blk.cell HK1.out 33).trans Q33.out
      have y0_ : World.cell? _ ⟨N, 3, none⟩ = some (.int .i64 0) := Blk.cell HKN.out 3
      have f0_ := Blk.frozen HKN.out 3
      have l0_ := Blk.lt HKN.out
      have hq1 : Int.tdiv hi 4 = hi / 4 := Int.tdiv_eq_ediv_of_nonneg h5.1
      have hq2 : IntKind.i64.wrap (hi / 4) = hi / 4 := IntWalk.i64_in _ (by omega)
      have hq3 : IntKind.i64.wrap (hi - hi / 4) = hi - hi / 4 := IntWalk.i64_in _ (by omega)
      go_upto_region 6 with fail
      clear y33
      have n_HKN := Lib.hid (Blk.set' HKN.out 3 (.int .i64 (hi - hi / 4)) (cs' := #[.int .i64 lst, .int .i64 mst, .int .i64 pr, .int .i64 (hi - hi / 4), .bool true]) rfl)
      have n_HK1 := Lib.hid (Blk.other HK1.out (p := ⟨N, 3, none⟩) (by have := HN.out; show w.heap.size ≠ N; omega) (.int .i64 (hi - hi / 4)))
      have n_HK2 := Lib.hid (Blk.other HK2.out (p := ⟨N, 3, none⟩) (by have := HN.out; show w.heap.size + 1 ≠ N; omega) (.int .i64 (hi - hi / 4)))
      have n_HB := Lib.hid (HB.out.setCell (p := ⟨N, 3, none⟩) (by have := HN.out; show w.heap.size ≤ N; omega) (.int .i64 (hi - hi / 4)))
      clear HKN HK1 HK2 HB hrow
      (try clear y0_ f0_ l0_)
      have HKN := n_HKN; have HK1 := n_HK1; have HK2 := n_HK2; have HB := n_HB
      clear n_HKN n_HK1 n_HK2 n_HB
      generalize World.setCell _ ⟨N, 3, none⟩ (.int .i64 (hi - hi / 4)) = W11 at HKN HK1 HK2 HB ⊢
      have hrow := Blk.range HK1.out
      obtain ⟨fc, hfc⟩ : ∃ fc : Array Value, fc = #[.int .i64 lst, .int .i64 mst, .int .i64 pr, .int .i64 (hi - hi / 4), .bool true] := ⟨_, rfl⟩
      have HF1 := Lib.hid (box_len lst mst pr (hi - hi / 4) true)
      have HF2 := Lib.hid (box_one lst mst pr (hi - hi / 4) true)
      rw [← hfc] at HKN HF1 HF2
      have HFS := Lib.hid (show fc.size = 5 by rw [hfc]; rfl)
      have HFL : Hid ((Try.prog.info? 43).map (·.size) = some fc.toList.length) := Lib.hid (by rw [HF1.out, Array.length_toList])
      (try clear hrow)
      have hrow := Blk.range HKN.out
      have hT := Blk.there HK2.out fc.size (by rw [HFS.out]; exact Nat.le_refl _)
      go_wp2_with (first | (refine wpList_load_mid rfl 43 _ rfl _ _ rfl _ _ hrow Try.underlying43 rfl HFL.out ?_) | (refine wpList_store_mid rfl 43 _ _ rfl (w.heap.size + 1) 0 fc rfl rfl hT HF1.out HF2.out ?_; have hZ4 := HK2.out.setCells fc.toList (by rw [Array.length_toList, HFS.out]; rfl); have hB5 := below_setCells' (b := w.heap.size + 1) (by omega) fc.toList 0 HB.out; generalize World.setCells _ (w.heap.size + 1) 0 fc.toList = W12 at hZ4 hB5 ⊢; have HZ4 := Lib.hid hZ4; clear hZ4 hT hrow))
      (try simp only [Exit.inBlock, Exit.then])
      refine bodyPost_ret (v := .agg fc) ?_ rfl ⟨by rw [hfc], hB5⟩
      rw [show Value.agg fc = .agg fc.toList.toArray by rw [Array.toArray_toList]]
      exact results_cell_mid Try.results18 _ _ (w.heap.size + 1) 0 fc.toList _ rfl HZ4.out.range Try.underlying43 rfl HFL.out

    · go_simp
      have hN : w.heap.size + 1 < v5.heap.size := Blk.lt HK2.out
      have HKN := Lib.hid (Blk.new v5 43 #[.int .i64 0, .int .i64 0, .int .i64 0, .int .i64 0, .bool false])
      have n_HK1 := Lib.hid (Blk.alloc HK1.out (.cells #[.int .i64 0, .int .i64 0, .int .i64 0, .int .i64 0, .bool false] 43))
      have n_HK2 := Lib.hid (Blk.alloc HK2.out (.cells #[.int .i64 0, .int .i64 0, .int .i64 0, .int .i64 0, .bool false] 43))
      have n_HB := Lib.hid (HB.out.alloc HB.out.size (.cells #[.int .i64 0, .int .i64 0, .int .i64 0, .int .i64 0, .bool false] 43))
      clear HK1 HK2 HB HS
      have HK1 := n_HK1; have HK2 := n_HK2; have HB := n_HB
      clear n_HK1 n_HK2 n_HB
      have HS : (fun V : World => V.rangeAt w.heap.size 0 cs.toList ∧ V.cell? ⟨w.heap.size, 33, none⟩ = some (.int .i64 hi)) (v5.alloc (.cells #[.int .i64 0, .int .i64 0, .int .i64 0, .int .i64 0, .bool false] 43)) := ⟨Blk.range HK1.out, (Blk.cell HK1.out 33).trans Q33.out⟩
      (refine hK _ _ ⟨HS, ?_⟩; clear hK K; (try simp only [Act.put, List.setIfInBounds_toArray, List.set_cons_zero, List.set_cons_succ]))
      generalize v5.alloc (.cells #[.int .i64 0, .int .i64 0, .int .i64 0, .int .i64 0, .bool false] 43) = V8 at HKN HK1 HK2 HB HS ⊢
      generalize v5.heap.size = N at *
      have HN := Lib.hid hN
      clear hN
      (refine oneH (i := 3) rfl (by kernel_rfl) (fun K hK => ?_); go_simp)
      refine (callsIn_wide.2 (HMST.out _ HB.out)).mono ?_
      rintro e v6 ⟨rfl, hb⟩
      dsimp only
      have n_HK1 := Lib.hid (Blk.below HK1.out hb (Blk.lt HK1.out))
      have n_HK2 := Lib.hid (Blk.below HK2.out hb (Blk.lt HK2.out))
      have n_HKN := Lib.hid (Blk.below HKN.out hb (Blk.lt HKN.out))
      have n_HB := Lib.hid (HB.out.trans (hb.mono HB.out.size))
      clear hb HB HS HK1 HK2 HKN
      have HK1 := n_HK1
      have HK2 := n_HK2
      have HKN := n_HKN
      have HB := n_HB
      clear n_HB n_HK1 n_HK2 n_HKN
      have HS : (fun V : World => V.rangeAt w.heap.size 0 cs.toList ∧ V.cell? ⟨w.heap.size, 33, none⟩ = some (.int .i64 hi)) v6 := ⟨Blk.range HK1.out, (Blk.cell HK1.out 33).trans Q33.out⟩
      (refine hK _ _ ⟨HS, ?_⟩; clear hK K; (try simp only [Act.put, List.setIfInBounds_toArray, List.set_cons_zero, List.set_cons_succ]))
      (refine takeH (i := 8) (v := ?_) rfl (by kernel_rfl) (by kernel_rfl) (by kernel_rfl) (by kernel_rfl) (fun _ _ _ h => h) ⟨Or.inl ⟨by rfl, ?_⟩, fun _ => rfl⟩ HS ?_; rotate_left; focus (rintro wS ⟨s1, s2⟩; go_simp; try (with_reducible rfl)); (try simp only [Act.put, List.setIfInBounds_toArray, List.set_cons_zero, List.set_cons_succ]))
      have y0_ := Blk.cell HKN.out 0
      have y1_ := Blk.cell HKN.out 1
      have y2_ := Blk.cell HKN.out 2
      have y3_ := Blk.cell HKN.out 3
      have y4_ := Blk.cell HKN.out 4
      have f0_ := Blk.frozen HKN.out 0
      have f1_ := Blk.frozen HKN.out 1
      have f2_ := Blk.frozen HKN.out 2
      have f3_ := Blk.frozen HKN.out 3
      have f4_ := Blk.frozen HKN.out 4
      have l0_ := Blk.lt HKN.out
      simp only [List.getElem?_toArray, List.getElem?_cons_zero, List.getElem?_cons_succ] at y0_ y1_ y2_ y3_ y4_
      (refine oneH (i := 10) rfl (by kernel_rfl) (fun K hK => ?_); go_simp)
      clear y0_ y1_ y2_ y3_ y4_ f0_ f1_ f2_ f3_ f4_ l0_
      have n_HKN := Lib.hid (Blk.set' (Blk.set' (Blk.set' (Blk.set' (Blk.set' HKN.out 0 (.int .i64 lst) (cs' := #[.int .i64 lst, .int .i64 0, .int .i64 0, .int .i64 0, .bool false]) rfl) 1 (.int .i64 mst) (cs' := #[.int .i64 lst, .int .i64 mst, .int .i64 0, .int .i64 0, .bool false]) rfl) 2 (.int .i64 pr) (cs' := #[.int .i64 lst, .int .i64 mst, .int .i64 pr, .int .i64 0, .bool false]) rfl) 3 (.int .i64 0) (cs' := #[.int .i64 lst, .int .i64 mst, .int .i64 pr, .int .i64 0, .bool false]) rfl) 4 (.bool false) (cs' := #[.int .i64 lst, .int .i64 mst, .int .i64 pr, .int .i64 0, .bool false]) rfl)
      have n_HK1 := Lib.hid (Blk.other (Blk.other (Blk.other (Blk.other (Blk.other HK1.out (p := ⟨N, 0, none⟩) (by have := HN.out; show w.heap.size ≠ N; omega) (.int .i64 lst)) (p := ⟨N, 1, none⟩) (by have := HN.out; show w.heap.size ≠ N; omega) (.int .i64 mst)) (p := ⟨N, 2, none⟩) (by have := HN.out; show w.heap.size ≠ N; omega) (.int .i64 pr)) (p := ⟨N, 3, none⟩) (by have := HN.out; show w.heap.size ≠ N; omega) (.int .i64 0)) (p := ⟨N, 4, none⟩) (by have := HN.out; show w.heap.size ≠ N; omega) (.bool false))
      have n_HK2 := Lib.hid (Blk.other (Blk.other (Blk.other (Blk.other (Blk.other HK2.out (p := ⟨N, 0, none⟩) (by have := HN.out; show w.heap.size + 1 ≠ N; omega) (.int .i64 lst)) (p := ⟨N, 1, none⟩) (by have := HN.out; show w.heap.size + 1 ≠ N; omega) (.int .i64 mst)) (p := ⟨N, 2, none⟩) (by have := HN.out; show w.heap.size + 1 ≠ N; omega) (.int .i64 pr)) (p := ⟨N, 3, none⟩) (by have := HN.out; show w.heap.size + 1 ≠ N; omega) (.int .i64 0)) (p := ⟨N, 4, none⟩) (by have := HN.out; show w.heap.size + 1 ≠ N; omega) (.bool false))
      have n_HB := Lib.hid (Below.setCell (Below.setCell (Below.setCell (Below.setCell (Below.setCell HB.out (p := ⟨N, 0, none⟩) (by have := HN.out; show w.heap.size ≤ N; omega) (.int .i64 lst)) (p := ⟨N, 1, none⟩) (by have := HN.out; show w.heap.size ≤ N; omega) (.int .i64 mst)) (p := ⟨N, 2, none⟩) (by have := HN.out; show w.heap.size ≤ N; omega) (.int .i64 pr)) (p := ⟨N, 3, none⟩) (by have := HN.out; show w.heap.size ≤ N; omega) (.int .i64 0)) (p := ⟨N, 4, none⟩) (by have := HN.out; show w.heap.size ≤ N; omega) (.bool false))
      clear HKN HK1 HK2 HB HS
      have HKN := n_HKN; have HK1 := n_HK1; have HK2 := n_HK2; have HB := n_HB
      clear n_HKN n_HK1 n_HK2 n_HB
      have HS : (fun V : World => V.rangeAt w.heap.size 0 cs.toList ∧ V.cell? ⟨w.heap.size, 33, none⟩ = some (.int .i64 hi)) _ := ⟨Blk.range HK1.out, (Blk.cell HK1.out 33).trans Q33.out⟩
      (refine hK _ _ ⟨HS, ?_⟩; clear hK K; (try simp only [Act.put, List.setIfInBounds_toArray, List.set_cons_zero, List.set_cons_succ]))
      clear HS
      generalize World.setCell _ ⟨N, 4, none⟩ (.bool false) = W9 at HKN HK1 HK2 HB ⊢
      (refine doneH (by kernel_rfl) ?_ _)
      simp only [Exit.then]
      have y0_ : World.cell? _ ⟨N, 4, none⟩ = some (.bool false) := Blk.cell HKN.out 4
      have f0_ := Blk.frozen HKN.out 4
      have l0_ := Blk.lt HKN.out
      have hrow := Blk.range HK1.out
      go_upto_region 5 with fail
      have n_HKN := Lib.hid (Blk.set' HKN.out 4 (.bool true) (cs' := #[.int .i64 lst, .int .i64 mst, .int .i64 pr, .int .i64 0, .bool true]) rfl)
      have n_HK1 := Lib.hid (Blk.other HK1.out (p := ⟨N, 4, none⟩) (by have := HN.out; show w.heap.size ≠ N; omega) (.bool true))
      have n_HK2 := Lib.hid (Blk.other HK2.out (p := ⟨N, 4, none⟩) (by have := HN.out; show w.heap.size + 1 ≠ N; omega) (.bool true))
      have n_HB := Lib.hid (HB.out.setCell (p := ⟨N, 4, none⟩) (by have := HN.out; show w.heap.size ≤ N; omega) (.bool true))
      clear HKN HK1 HK2 HB hrow
      (try clear y0_ f0_ l0_)
      have HKN := n_HKN; have HK1 := n_HK1; have HK2 := n_HK2; have HB := n_HB
      clear n_HKN n_HK1 n_HK2 n_HB
      generalize World.setCell _ ⟨N, 4, none⟩ (.bool true) = W10 at HKN HK1 HK2 HB ⊢
      have hrow := Blk.range HK1.out
      have y33 : W10.cell? ⟨w.heap.size, 33, none⟩ = some (.int .i64 hi) := (Blk.cell HK1.out 33).trans Q33.out
      have y0_ : World.cell? _ ⟨N, 3, none⟩ = some (.int .i64 0) := Blk.cell HKN.out 3
      have f0_ := Blk.frozen HKN.out 3
      have l0_ := Blk.lt HKN.out
      have hq1 : Int.tdiv hi 4 = hi / 4 := Int.tdiv_eq_ediv_of_nonneg h5.1
      have hq2 : IntKind.i64.wrap (hi / 4) = hi / 4 := IntWalk.i64_in _ (by omega)
      have hq3 : IntKind.i64.wrap (hi - hi / 4) = hi - hi / 4 := IntWalk.i64_in _ (by omega)
      go_upto_region 6 with fail
      clear y33
      have n_HKN := Lib.hid (Blk.set' HKN.out 3 (.int .i64 (hi - hi / 4)) (cs' := #[.int .i64 lst, .int .i64 mst, .int .i64 pr, .int .i64 (hi - hi / 4), .bool true]) rfl)
      have n_HK1 := Lib.hid (Blk.other HK1.out (p := ⟨N, 3, none⟩) (by have := HN.out; show w.heap.size ≠ N; omega) (.int .i64 (hi - hi / 4)))
      have n_HK2 := Lib.hid (Blk.other HK2.out (p := ⟨N, 3, none⟩) (by have := HN.out; show w.heap.size + 1 ≠ N; omega) (.int .i64 (hi - hi / 4)))
      have n_HB := Lib.hid (HB.out.setCell (p := ⟨N, 3, none⟩) (by have := HN.out; show w.heap.size ≤ N; omega) (.int .i64 (hi - hi / 4)))
      clear HKN HK1 HK2 HB hrow
      (try clear y0_ f0_ l0_)
      have HKN := n_HKN; have HK1 := n_HK1; have HK2 := n_HK2; have HB := n_HB
      clear n_HKN n_HK1 n_HK2 n_HB
      generalize World.setCell _ ⟨N, 3, none⟩ (.int .i64 (hi - hi / 4)) = W11 at HKN HK1 HK2 HB ⊢
      have hrow := Blk.range HK1.out
      obtain ⟨fc, hfc⟩ : ∃ fc : Array Value, fc = #[.int .i64 lst, .int .i64 mst, .int .i64 pr, .int .i64 (hi - hi / 4), .bool true] := ⟨_, rfl⟩
      have HF1 := Lib.hid (box_len lst mst pr (hi - hi / 4) true)
      have HF2 := Lib.hid (box_one lst mst pr (hi - hi / 4) true)
      rw [← hfc] at HKN HF1 HF2
      have HFS := Lib.hid (show fc.size = 5 by rw [hfc]; rfl)
      have HFL : Hid ((Try.prog.info? 43).map (·.size) = some fc.toList.length) := Lib.hid (by rw [HF1.out, Array.length_toList])
      (try clear hrow)
      have hrow := Blk.range HKN.out
      have hT := Blk.there HK2.out fc.size (by rw [HFS.out]; exact Nat.le_refl _)
      go_wp2_with (first | (refine wpList_load_mid rfl 43 _ rfl _ _ rfl _ _ hrow Try.underlying43 rfl HFL.out ?_) | (refine wpList_store_mid rfl 43 _ _ rfl (w.heap.size + 1) 0 fc rfl rfl hT HF1.out HF2.out ?_; have hZ4 := HK2.out.setCells fc.toList (by rw [Array.length_toList, HFS.out]; rfl); have hB5 := below_setCells' (b := w.heap.size + 1) (by omega) fc.toList 0 HB.out; generalize World.setCells _ (w.heap.size + 1) 0 fc.toList = W12 at hZ4 hB5 ⊢; have HZ4 := Lib.hid hZ4; clear hZ4 hT hrow))
      (try simp only [Exit.inBlock, Exit.then])
      refine bodyPost_ret (v := .agg fc) ?_ rfl ⟨by rw [hfc], hB5⟩
      rw [show Value.agg fc = .agg fc.toList.toArray by rw [Array.toArray_toList]]
      exact results_cell_mid Try.results18 _ _ (w.heap.size + 1) 0 fc.toList _ rfl HZ4.out.range Try.underlying43 rfl HFL.out


  · go_simp
    have hN : w.heap.size + 1 < V0.heap.size := Blk.lt HK2.out
    have HKN := Lib.hid (Blk.new V0 43 #[.int .i64 0, .int .i64 0, .int .i64 0, .int .i64 0, .bool false])
    have n_HK1 := Lib.hid (Blk.alloc HK1.out (.cells #[.int .i64 0, .int .i64 0, .int .i64 0, .int .i64 0, .bool false] 43))
    have n_HK2 := Lib.hid (Blk.alloc HK2.out (.cells #[.int .i64 0, .int .i64 0, .int .i64 0, .int .i64 0, .bool false] 43))
    have n_HB := Lib.hid (HB.out.alloc HB.out.size (.cells #[.int .i64 0, .int .i64 0, .int .i64 0, .int .i64 0, .bool false] 43))
    clear HK1 HK2 HB HS
    have HK1 := n_HK1; have HK2 := n_HK2; have HB := n_HB
    clear n_HK1 n_HK2 n_HB
    have HS : (fun V : World => V.rangeAt w.heap.size 0 cs.toList ∧ V.cell? ⟨w.heap.size, 33, none⟩ = some (.int .i64 hi)) (V0.alloc (.cells #[.int .i64 0, .int .i64 0, .int .i64 0, .int .i64 0, .bool false] 43)) := ⟨Blk.range HK1.out, (Blk.cell HK1.out 33).trans Q33.out⟩
    (refine hK _ _ ⟨HS, ?_⟩; clear hK K; (try simp only [Act.put, List.setIfInBounds_toArray, List.set_cons_zero, List.set_cons_succ]))
    generalize V0.alloc (.cells #[.int .i64 0, .int .i64 0, .int .i64 0, .int .i64 0, .bool false] 43) = V8 at HKN HK1 HK2 HB HS ⊢
    generalize V0.heap.size = N at *
    have HN := Lib.hid hN
    clear hN
    (refine oneH (i := 1) rfl (by kernel_rfl) (fun K hK => ?_); go_simp)
    refine (callsIn_wide.2 (HLST.out _ HB.out)).mono ?_
    rintro e v5 ⟨rfl, hb⟩
    dsimp only
    have n_HK1 := Lib.hid (Blk.below HK1.out hb (Blk.lt HK1.out))
    have n_HK2 := Lib.hid (Blk.below HK2.out hb (Blk.lt HK2.out))
    have n_HKN := Lib.hid (Blk.below HKN.out hb (Blk.lt HKN.out))
    have n_HB := Lib.hid (HB.out.trans (hb.mono HB.out.size))
    clear hb HB HS HK1 HK2 HKN
    have HK1 := n_HK1
    have HK2 := n_HK2
    have HKN := n_HKN
    have HB := n_HB
    clear n_HB n_HK1 n_HK2 n_HKN
    have HS : (fun V : World => V.rangeAt w.heap.size 0 cs.toList ∧ V.cell? ⟨w.heap.size, 33, none⟩ = some (.int .i64 hi)) v5 := ⟨Blk.range HK1.out, (Blk.cell HK1.out 33).trans Q33.out⟩
    (refine hK _ _ ⟨HS, ?_⟩; clear hK K; (try simp only [Act.put, List.setIfInBounds_toArray, List.set_cons_zero, List.set_cons_succ]))
    (refine oneH (i := 3) rfl (by kernel_rfl) (fun K hK => ?_); go_simp)
    refine (callsIn_wide.2 (HMST.out _ HB.out)).mono ?_
    rintro e v6 ⟨rfl, hb⟩
    dsimp only
    have n_HK1 := Lib.hid (Blk.below HK1.out hb (Blk.lt HK1.out))
    have n_HK2 := Lib.hid (Blk.below HK2.out hb (Blk.lt HK2.out))
    have n_HKN := Lib.hid (Blk.below HKN.out hb (Blk.lt HKN.out))
    have n_HB := Lib.hid (HB.out.trans (hb.mono HB.out.size))
    clear hb HB HS HK1 HK2 HKN
    have HK1 := n_HK1
    have HK2 := n_HK2
    have HKN := n_HKN
    have HB := n_HB
    clear n_HB n_HK1 n_HK2 n_HKN
    have HS : (fun V : World => V.rangeAt w.heap.size 0 cs.toList ∧ V.cell? ⟨w.heap.size, 33, none⟩ = some (.int .i64 hi)) v6 := ⟨Blk.range HK1.out, (Blk.cell HK1.out 33).trans Q33.out⟩
    (refine hK _ _ ⟨HS, ?_⟩; clear hK K; (try simp only [Act.put, List.setIfInBounds_toArray, List.set_cons_zero, List.set_cons_succ]))
    (refine takeH (i := 8) (v := ?_) rfl (by kernel_rfl) (by kernel_rfl) (by kernel_rfl) (by kernel_rfl) (fun _ _ _ h => h) ⟨Or.inl ⟨by rfl, ?_⟩, fun _ => rfl⟩ HS ?_; rotate_left; focus (rintro wS ⟨s1, s2⟩; go_simp; try (with_reducible rfl)); (try simp only [Act.put, List.setIfInBounds_toArray, List.set_cons_zero, List.set_cons_succ]))
    have y0_ := Blk.cell HKN.out 0
    have y1_ := Blk.cell HKN.out 1
    have y2_ := Blk.cell HKN.out 2
    have y3_ := Blk.cell HKN.out 3
    have y4_ := Blk.cell HKN.out 4
    have f0_ := Blk.frozen HKN.out 0
    have f1_ := Blk.frozen HKN.out 1
    have f2_ := Blk.frozen HKN.out 2
    have f3_ := Blk.frozen HKN.out 3
    have f4_ := Blk.frozen HKN.out 4
    have l0_ := Blk.lt HKN.out
    simp only [List.getElem?_toArray, List.getElem?_cons_zero, List.getElem?_cons_succ] at y0_ y1_ y2_ y3_ y4_
    (refine oneH (i := 10) rfl (by kernel_rfl) (fun K hK => ?_); go_simp)
    clear y0_ y1_ y2_ y3_ y4_ f0_ f1_ f2_ f3_ f4_ l0_
    have n_HKN := Lib.hid (Blk.set' (Blk.set' (Blk.set' (Blk.set' (Blk.set' HKN.out 0 (.int .i64 lst) (cs' := #[.int .i64 lst, .int .i64 0, .int .i64 0, .int .i64 0, .bool false]) rfl) 1 (.int .i64 mst) (cs' := #[.int .i64 lst, .int .i64 mst, .int .i64 0, .int .i64 0, .bool false]) rfl) 2 (.int .i64 pr) (cs' := #[.int .i64 lst, .int .i64 mst, .int .i64 pr, .int .i64 0, .bool false]) rfl) 3 (.int .i64 0) (cs' := #[.int .i64 lst, .int .i64 mst, .int .i64 pr, .int .i64 0, .bool false]) rfl) 4 (.bool false) (cs' := #[.int .i64 lst, .int .i64 mst, .int .i64 pr, .int .i64 0, .bool false]) rfl)
    have n_HK1 := Lib.hid (Blk.other (Blk.other (Blk.other (Blk.other (Blk.other HK1.out (p := ⟨N, 0, none⟩) (by have := HN.out; show w.heap.size ≠ N; omega) (.int .i64 lst)) (p := ⟨N, 1, none⟩) (by have := HN.out; show w.heap.size ≠ N; omega) (.int .i64 mst)) (p := ⟨N, 2, none⟩) (by have := HN.out; show w.heap.size ≠ N; omega) (.int .i64 pr)) (p := ⟨N, 3, none⟩) (by have := HN.out; show w.heap.size ≠ N; omega) (.int .i64 0)) (p := ⟨N, 4, none⟩) (by have := HN.out; show w.heap.size ≠ N; omega) (.bool false))
    have n_HK2 := Lib.hid (Blk.other (Blk.other (Blk.other (Blk.other (Blk.other HK2.out (p := ⟨N, 0, none⟩) (by have := HN.out; show w.heap.size + 1 ≠ N; omega) (.int .i64 lst)) (p := ⟨N, 1, none⟩) (by have := HN.out; show w.heap.size + 1 ≠ N; omega) (.int .i64 mst)) (p := ⟨N, 2, none⟩) (by have := HN.out; show w.heap.size + 1 ≠ N; omega) (.int .i64 pr)) (p := ⟨N, 3, none⟩) (by have := HN.out; show w.heap.size + 1 ≠ N; omega) (.int .i64 0)) (p := ⟨N, 4, none⟩) (by have := HN.out; show w.heap.size + 1 ≠ N; omega) (.bool false))
    have n_HB := Lib.hid (Below.setCell (Below.setCell (Below.setCell (Below.setCell (Below.setCell HB.out (p := ⟨N, 0, none⟩) (by have := HN.out; show w.heap.size ≤ N; omega) (.int .i64 lst)) (p := ⟨N, 1, none⟩) (by have := HN.out; show w.heap.size ≤ N; omega) (.int .i64 mst)) (p := ⟨N, 2, none⟩) (by have := HN.out; show w.heap.size ≤ N; omega) (.int .i64 pr)) (p := ⟨N, 3, none⟩) (by have := HN.out; show w.heap.size ≤ N; omega) (.int .i64 0)) (p := ⟨N, 4, none⟩) (by have := HN.out; show w.heap.size ≤ N; omega) (.bool false))
    clear HKN HK1 HK2 HB HS
    have HKN := n_HKN; have HK1 := n_HK1; have HK2 := n_HK2; have HB := n_HB
    clear n_HKN n_HK1 n_HK2 n_HB
    have HS : (fun V : World => V.rangeAt w.heap.size 0 cs.toList ∧ V.cell? ⟨w.heap.size, 33, none⟩ = some (.int .i64 hi)) _ := ⟨Blk.range HK1.out, (Blk.cell HK1.out 33).trans Q33.out⟩
    (refine hK _ _ ⟨HS, ?_⟩; clear hK K; (try simp only [Act.put, List.setIfInBounds_toArray, List.set_cons_zero, List.set_cons_succ]))
    clear HS
    generalize World.setCell _ ⟨N, 4, none⟩ (.bool false) = W9 at HKN HK1 HK2 HB ⊢
    (refine doneH (by kernel_rfl) ?_ _)
    simp only [Exit.then]
    have y0_ : World.cell? _ ⟨N, 4, none⟩ = some (.bool false) := Blk.cell HKN.out 4
    have f0_ := Blk.frozen HKN.out 4
    have l0_ := Blk.lt HKN.out
    have hrow := Blk.range HK1.out
    go_upto_region 5 with fail
    have n_HKN := Lib.hid (Blk.set' HKN.out 4 (.bool true) (cs' := #[.int .i64 lst, .int .i64 mst, .int .i64 pr, .int .i64 0, .bool true]) rfl)
    have n_HK1 := Lib.hid (Blk.other HK1.out (p := ⟨N, 4, none⟩) (by have := HN.out; show w.heap.size ≠ N; omega) (.bool true))
    have n_HK2 := Lib.hid (Blk.other HK2.out (p := ⟨N, 4, none⟩) (by have := HN.out; show w.heap.size + 1 ≠ N; omega) (.bool true))
    have n_HB := Lib.hid (HB.out.setCell (p := ⟨N, 4, none⟩) (by have := HN.out; show w.heap.size ≤ N; omega) (.bool true))
    clear HKN HK1 HK2 HB hrow
    (try clear y0_ f0_ l0_)
    have HKN := n_HKN; have HK1 := n_HK1; have HK2 := n_HK2; have HB := n_HB
    clear n_HKN n_HK1 n_HK2 n_HB
    generalize World.setCell _ ⟨N, 4, none⟩ (.bool true) = W10 at HKN HK1 HK2 HB ⊢
    have hrow := Blk.range HK1.out
    have y33 : W10.cell? ⟨w.heap.size, 33, none⟩ = some (.int .i64 hi) := (Blk.cell HK1.out 33).trans Q33.out
    have y0_ : World.cell? _ ⟨N, 3, none⟩ = some (.int .i64 0) := Blk.cell HKN.out 3
    have f0_ := Blk.frozen HKN.out 3
    have l0_ := Blk.lt HKN.out
    have hq1 : Int.tdiv hi 4 = hi / 4 := Int.tdiv_eq_ediv_of_nonneg h5.1
    have hq2 : IntKind.i64.wrap (hi / 4) = hi / 4 := IntWalk.i64_in _ (by omega)
    have hq3 : IntKind.i64.wrap (hi - hi / 4) = hi - hi / 4 := IntWalk.i64_in _ (by omega)
    go_upto_region 6 with fail
    clear y33
    have n_HKN := Lib.hid (Blk.set' HKN.out 3 (.int .i64 (hi - hi / 4)) (cs' := #[.int .i64 lst, .int .i64 mst, .int .i64 pr, .int .i64 (hi - hi / 4), .bool true]) rfl)
    have n_HK1 := Lib.hid (Blk.other HK1.out (p := ⟨N, 3, none⟩) (by have := HN.out; show w.heap.size ≠ N; omega) (.int .i64 (hi - hi / 4)))
    have n_HK2 := Lib.hid (Blk.other HK2.out (p := ⟨N, 3, none⟩) (by have := HN.out; show w.heap.size + 1 ≠ N; omega) (.int .i64 (hi - hi / 4)))
    have n_HB := Lib.hid (HB.out.setCell (p := ⟨N, 3, none⟩) (by have := HN.out; show w.heap.size ≤ N; omega) (.int .i64 (hi - hi / 4)))
    clear HKN HK1 HK2 HB hrow
    (try clear y0_ f0_ l0_)
    have HKN := n_HKN; have HK1 := n_HK1; have HK2 := n_HK2; have HB := n_HB
    clear n_HKN n_HK1 n_HK2 n_HB
    generalize World.setCell _ ⟨N, 3, none⟩ (.int .i64 (hi - hi / 4)) = W11 at HKN HK1 HK2 HB ⊢
    have hrow := Blk.range HK1.out
    obtain ⟨fc, hfc⟩ : ∃ fc : Array Value, fc = #[.int .i64 lst, .int .i64 mst, .int .i64 pr, .int .i64 (hi - hi / 4), .bool true] := ⟨_, rfl⟩
    have HF1 := Lib.hid (box_len lst mst pr (hi - hi / 4) true)
    have HF2 := Lib.hid (box_one lst mst pr (hi - hi / 4) true)
    rw [← hfc] at HKN HF1 HF2
    have HFS := Lib.hid (show fc.size = 5 by rw [hfc]; rfl)
    have HFL : Hid ((Try.prog.info? 43).map (·.size) = some fc.toList.length) := Lib.hid (by rw [HF1.out, Array.length_toList])
    (try clear hrow)
    have hrow := Blk.range HKN.out
    have hT := Blk.there HK2.out fc.size (by rw [HFS.out]; exact Nat.le_refl _)
    go_wp2_with (first | (refine wpList_load_mid rfl 43 _ rfl _ _ rfl _ _ hrow Try.underlying43 rfl HFL.out ?_) | (refine wpList_store_mid rfl 43 _ _ rfl (w.heap.size + 1) 0 fc rfl rfl hT HF1.out HF2.out ?_; have hZ4 := HK2.out.setCells fc.toList (by rw [Array.length_toList, HFS.out]; rfl); have hB5 := below_setCells' (b := w.heap.size + 1) (by omega) fc.toList 0 HB.out; generalize World.setCells _ (w.heap.size + 1) 0 fc.toList = W12 at hZ4 hB5 ⊢; have HZ4 := Lib.hid hZ4; clear hZ4 hT hrow))
    (try simp only [Exit.inBlock, Exit.then])
    refine bodyPost_ret (v := .agg fc) ?_ rfl ⟨by rw [hfc], hB5⟩
    rw [show Value.agg fc = .agg fc.toList.toArray by rw [Array.toArray_toList]]
    exact results_cell_mid Try.results18 _ _ (w.heap.size + 1) 0 fc.toList _ rfl HZ4.out.range Try.underlying43 rfl HFL.out


set_option maxRecDepth 100000 in
set_option maxHeartbeats 4000000 in
theorem refbox_none (A1 : Option Addr) (c1 : Nat) (A3 : Option Addr) (c3 : Nat) (n : Nd) (width : Int) (w : World) (hr1 : Kd.C (Kd.int .i64) w A1 n.f1.length n.f1) (hc1 : n.f1.length ≤ c1) (hr3 : Kd.C (Kd.int .i64) w A3 n.f3.length n.f3) (hc3 : n.f3.length ≤ c3) (hR : rightB n = true) (hnl : (linesP n width).length = 0) :
    Calls Try.prog 18 #[.agg (nodeC A1 c1 A3 c3 n), .int .i64 width] w fun e w' => e = .returned (.agg #[.int .i64 (n.f3.foldl mx 0), .int .i64 (wideP n.f3 n.f4 0 n.f3.length), .int .i64 (n.f5 * ((linesP n width).length : Int)), .int .i64 0, .bool false]) ∧ Below w.heap.size w w' := by
  have hlen : (Try.prog.info? 35).map (·.size) = some (nodeC A1 c1 A3 c3 n).toList.length := by kernel_rfl
  have HLEN := Lib.hid hlen
  have hbk := fun (V : World) (hV : Below w.heap.size w V) => refbreak_yes A1 c1 A3 c3 n width V (Kd.C_below hr1 hV) hc1 (Kd.C_below hr3 hV) hc3 hR
  have HBRK0 := Lib.hid hbk
  clear hbk
  have hbk := fun (V : World) (hV : Below w.heap.size w V) => rleast_any A1 c1 A3 c3 n V (Kd.C_below hr1 hV) hc1 (Kd.C_below hr3 hV) hc3 hR
  have HLST := Lib.hid hbk
  clear hbk
  have hbk := fun (V : World) (hV : Below w.heap.size w V) => rmost_any A1 c1 A3 c3 n V (Kd.C_below hr1 hV) hc1 (Kd.C_below hr3 hV) hc3 hR
  have HMST := Lib.hid hbk
  clear hbk
  obtain ⟨-, hl, -, h5, -⟩ := right_facts hR
  have hpb : IntKind.i64.wrap (((linesP n width).length : Int) * n.f5) = n.f5 * ((linesP n width).length : Int) := by
    have h1 : 0 ≤ n.f5 * ((linesP n width).length : Int) := Int.mul_nonneg h5.1 (by omega)
    have h2 : n.f5 * ((linesP n width).length : Int) ≤ 1073741824 * 10000 := Int.mul_le_mul h5.2 (by have := Nat.le_trans (linesN_len n.f3 n.f4 width n.f3.length 0) hl; unfold linesP; omega) (by omega) (by omega)
    rw [Int.mul_comm]
    exact IntWalk.i64_in _ (by omega)
  have q33 : (nodeC A1 c1 A3 c3 n)[33]? = some (.int .i64 n.f5) := rfl
  have Q33 := Lib.hid q33
  have hdec : decide (0 < (linesP n width).length) = false := decide_eq_false (by omega)
  clear hr1 hr3 hc1 hc3 hlen q33 hl hR
  generalize nodeC A1 c1 A3 c3 n = cs at *
  generalize n.f3.foldl mx 0 = lst at *
  generalize wideP n.f3 n.f4 0 n.f3.length = mst at *
  generalize n.f5 = hi at *
  have HBRK := Lib.hid (fun V hV => (HBRK0.out V hV).mono (R' := fun e w' => ∃ A c, e = .returned (.slice A (linesP n width).length c) ∧ Below V.heap.size V w') (by rintro e w' ⟨v, rfl, h, hb⟩; obtain ⟨A, c, rfl⟩ := Kd.R_slice h; exact ⟨A, c, by rw [List.length_map], hb⟩))
  clear HBRK0
  generalize (linesP n width).length = nl at *
  generalize hi * (nl : Int) = pr at *
  have HPB := Lib.hid hpb
  clear hnl hpb
  go_enter Try.func18, Try.ntmps18
  go_upto_region 1 with fail
  have hb1 : Below w.heap.size w ((w.alloc (.cells cs 35)).alloc (.cells boxZ 43)) := ((Below.refl _ w).alloc (Nat.le_refl _) _).alloc (by simp) _
  have hk1 : Blk ((w.alloc (.cells cs 35)).alloc (.cells boxZ 43)) w.heap.size 35 cs := Blk.alloc (Blk.new w _ _) _
  have hk2 : Blk ((w.alloc (.cells cs 35)).alloc (.cells boxZ 43)) (w.heap.size + 1) 43 boxZ := by
    have := Blk.new (w.alloc (.cells cs 35)) 43 boxZ
    rwa [World.size_alloc] at this
  have HB := Lib.hid hb1
  have HK1 := Lib.hid hk1
  have HK2 := Lib.hid hk2
  clear hb1 hk1 hk2
  change Code.wp _ _ _ _ ((w.alloc (.cells cs 35)).alloc (.cells boxZ 43)) at ⊢
  generalize ((w.alloc (.cells cs 35)).alloc (.cells boxZ 43)) = W0 at HB HK1 HK2 ⊢
  have hrow := Blk.range HK1.out
  go_upto_region 2 with (first | (refine wpList_load_mid rfl 35 _ rfl _ _ rfl _ _ hrow Try.underlying35 rfl HLEN.out ?_) | (go_at_call 17; refine (HBRK.out _ HB.out).mono ?_; rintro e w1 ⟨A, c, rfl, hb⟩; have n_HK1 := Lib.hid (Blk.below HK1.out hb (Blk.lt HK1.out)); have n_HK2 := Lib.hid (Blk.below HK2.out hb (Blk.lt HK2.out)); have n_HB := Lib.hid (HB.out.trans (hb.mono HB.out.size)); clear hb HB HK1 HK2; have HK1 := n_HK1; have HK2 := n_HK2; have HB := n_HB; clear n_HB n_HK1 n_HK2; replace hrow := Blk.range HK1.out))
  have HSd := Lib.hid (Blk.drew HK1.out)
  have HK2d := Lib.hid (Blk.drew HK2.out)
  have HBd := Lib.hid HB.out.drew
  have hsl : w.heap.size + 1 < w1.drew.heap.size := Blk.lt HK2d.out
  have HSL := Lib.hid hsl
  clear hsl HK1 HK2 HB hrow
  have HK1 := HSd; have HK2 := HK2d; have HB := HBd
  clear HSd HK2d HBd
  refine (wpIn_wide (n := 0)).1 ?_
  refine beginH (fun V : World => V.rangeAt w.heap.size 0 cs.toList ∧ V.cell? ⟨w.heap.size, 33, none⟩ = some (.int .i64 hi)) (by kernel_rfl) ?_
  generalize w1.drew = V0 at HK1 HK2 HB HSL ⊢
  have HS : (fun V : World => V.rangeAt w.heap.size 0 cs.toList ∧ V.cell? ⟨w.heap.size, 33, none⟩ = some (.int .i64 hi)) V0 := ⟨Blk.range HK1.out, (Blk.cell HK1.out 33).trans Q33.out⟩
  (refine takeH (i := 0) (v := .agg cs) rfl (by kernel_rfl) (by kernel_rfl) (by kernel_rfl) (by kernel_rfl) (fun _ _ _ h => h) ⟨yieldsIf_load_mid (by kernel_rfl) 35 _ rfl _ _ rfl cs.toList _ (fun w h => h.1) Try.underlying35 rfl HLEN.out, fun _ => rfl⟩ HS ?_; (try simp only [Act.put, List.setIfInBounds_toArray, List.set_cons_zero, List.set_cons_succ]))
  (refine takeH (i := 2) (v := .agg cs) rfl (by kernel_rfl) (by kernel_rfl) (by kernel_rfl) (by kernel_rfl) (fun _ _ _ h => h) ⟨yieldsIf_load_mid (by kernel_rfl) 35 _ rfl _ _ rfl cs.toList _ (fun w h => h.1) Try.underlying35 rfl HLEN.out, fun _ => rfl⟩ HS ?_; (try simp only [Act.put, List.setIfInBounds_toArray, List.set_cons_zero, List.set_cons_succ]))
  (refine takeH (i := 4) (v := ?_) rfl (by kernel_rfl) (by kernel_rfl) (by kernel_rfl) (by kernel_rfl) (fun _ _ _ h => h) ⟨Or.inl ⟨by rfl, ?_⟩, fun _ => rfl⟩ HS ?_; rotate_left; focus (rintro wS ⟨s1, s2⟩; go_simp; try (with_reducible rfl)); (try simp only [Act.put, List.setIfInBounds_toArray, List.set_cons_zero, List.set_cons_succ]))
  (refine takeH (i := 5) (v := ?_) rfl (by kernel_rfl) (by kernel_rfl) (by kernel_rfl) (by kernel_rfl) (fun _ _ _ h => h) ⟨Or.inl ⟨by rfl, ?_⟩, fun _ => rfl⟩ HS ?_; rotate_left; focus (rintro wS ⟨s1, s2⟩; go_simp; try (with_reducible rfl)); (try simp only [Act.put, List.setIfInBounds_toArray, List.set_cons_zero, List.set_cons_succ]))
  (refine takeH (i := 6) (v := ?_) rfl (by kernel_rfl) (by kernel_rfl) (by kernel_rfl) (by kernel_rfl) (fun _ _ _ h => h) ⟨Or.inl ⟨by rfl, ?_⟩, fun _ => rfl⟩ HS ?_; rotate_left; focus (rintro wS ⟨s1, s2⟩; go_simp; try (with_reducible rfl)); (try simp only [Act.put, List.setIfInBounds_toArray, List.set_cons_zero, List.set_cons_succ]))
  (refine takeH (i := 7) (v := ?_) rfl (by kernel_rfl) (by kernel_rfl) (by kernel_rfl) (by kernel_rfl) (fun _ _ _ h => h) ⟨Or.inl ⟨by rfl, ?_⟩, fun _ => rfl⟩ HS ?_; rotate_left; focus (rintro wS ⟨s1, s2⟩; go_simp; try (with_reducible rfl)); (try simp only [Act.put, List.setIfInBounds_toArray, List.set_cons_zero, List.set_cons_succ]))
  rw [HPB.out]
  refine twoH (i := 1) (j := 9) rfl rfl (by kernel_rfl) (fun K hK => ?_) (fun K hK => ?_)
  · go_simp
    refine (callsIn_wide.2 (HLST.out _ HB.out)).mono ?_
    rintro e v5 ⟨rfl, hb⟩
    dsimp only
    have n_HK1 := Lib.hid (Blk.below HK1.out hb (Blk.lt HK1.out))
    have n_HK2 := Lib.hid (Blk.below HK2.out hb (Blk.lt HK2.out))
    have n_HB := Lib.hid (HB.out.trans (hb.mono HB.out.size))
    clear hb HB HS HK1 HK2
    have HK1 := n_HK1
    have HK2 := n_HK2
    have HB := n_HB
    clear n_HB n_HK1 n_HK2
    have HS : (fun V : World => V.rangeAt w.heap.size 0 cs.toList ∧ V.cell? ⟨w.heap.size, 33, none⟩ = some (.int .i64 hi)) v5 := ⟨Blk.range HK1.out, (Blk.cell HK1.out 33).trans Q33.out⟩
    (refine hK _ _ ⟨HS, ?_⟩; clear hK K; (try simp only [Act.put, List.setIfInBounds_toArray, List.set_cons_zero, List.set_cons_succ]))
    refine twoH (i := 3) (j := 9) rfl rfl (by kernel_rfl) (fun K hK => ?_) (fun K hK => ?_)
    · go_simp
      refine (callsIn_wide.2 (HMST.out _ HB.out)).mono ?_
      rintro e v6 ⟨rfl, hb⟩
      dsimp only
      have n_HK1 := Lib.hid (Blk.below HK1.out hb (Blk.lt HK1.out))
      have n_HK2 := Lib.hid (Blk.below HK2.out hb (Blk.lt HK2.out))
      have n_HB := Lib.hid (HB.out.trans (hb.mono HB.out.size))
      clear hb HB HS HK1 HK2
      have HK1 := n_HK1
      have HK2 := n_HK2
      have HB := n_HB
      clear n_HB n_HK1 n_HK2
      have HS : (fun V : World => V.rangeAt w.heap.size 0 cs.toList ∧ V.cell? ⟨w.heap.size, 33, none⟩ = some (.int .i64 hi)) v6 := ⟨Blk.range HK1.out, (Blk.cell HK1.out 33).trans Q33.out⟩
      (refine hK _ _ ⟨HS, ?_⟩; clear hK K; (try simp only [Act.put, List.setIfInBounds_toArray, List.set_cons_zero, List.set_cons_succ]))
      (refine takeH (i := 8) (v := ?_) rfl (by kernel_rfl) (by kernel_rfl) (by kernel_rfl) (by kernel_rfl) (fun _ _ _ h => h) ⟨Or.inl ⟨by rfl, ?_⟩, fun _ => rfl⟩ HS ?_; rotate_left; focus (rintro wS ⟨s1, s2⟩; go_simp; try (with_reducible rfl)); (try simp only [Act.put, List.setIfInBounds_toArray, List.set_cons_zero, List.set_cons_succ]))
      (refine oneH (i := 9) rfl (by kernel_rfl) (fun K hK => ?_); go_simp)
      have hN : w.heap.size + 1 < v6.heap.size := Blk.lt HK2.out
      have HKN := Lib.hid (Blk.new v6 43 #[.int .i64 0, .int .i64 0, .int .i64 0, .int .i64 0, .bool false])
      have n_HK1 := Lib.hid (Blk.alloc HK1.out (.cells #[.int .i64 0, .int .i64 0, .int .i64 0, .int .i64 0, .bool false] 43))
      have n_HK2 := Lib.hid (Blk.alloc HK2.out (.cells #[.int .i64 0, .int .i64 0, .int .i64 0, .int .i64 0, .bool false] 43))
      have n_HB := Lib.hid (HB.out.alloc HB.out.size (.cells #[.int .i64 0, .int .i64 0, .int .i64 0, .int .i64 0, .bool false] 43))
      clear HK1 HK2 HB HS
      have HK1 := n_HK1; have HK2 := n_HK2; have HB := n_HB
      clear n_HK1 n_HK2 n_HB
      have HS : (fun V : World => V.rangeAt w.heap.size 0 cs.toList ∧ V.cell? ⟨w.heap.size, 33, none⟩ = some (.int .i64 hi)) (v6.alloc (.cells #[.int .i64 0, .int .i64 0, .int .i64 0, .int .i64 0, .bool false] 43)) := ⟨Blk.range HK1.out, (Blk.cell HK1.out 33).trans Q33.out⟩
      (refine hK _ _ ⟨HS, ?_⟩; clear hK K; (try simp only [Act.put, List.setIfInBounds_toArray, List.set_cons_zero, List.set_cons_succ]))
      generalize v6.alloc (.cells #[.int .i64 0, .int .i64 0, .int .i64 0, .int .i64 0, .bool false] 43) = V8 at HKN HK1 HK2 HB HS ⊢
      generalize v6.heap.size = N at *
      have HN := Lib.hid hN
      clear hN
      have y0_ := Blk.cell HKN.out 0
      have y1_ := Blk.cell HKN.out 1
      have y2_ := Blk.cell HKN.out 2
      have y3_ := Blk.cell HKN.out 3
      have y4_ := Blk.cell HKN.out 4
      have f0_ := Blk.frozen HKN.out 0
      have f1_ := Blk.frozen HKN.out 1
      have f2_ := Blk.frozen HKN.out 2
      have f3_ := Blk.frozen HKN.out 3
      have f4_ := Blk.frozen HKN.out 4
      have l0_ := Blk.lt HKN.out
      simp only [List.getElem?_toArray, List.getElem?_cons_zero, List.getElem?_cons_succ] at y0_ y1_ y2_ y3_ y4_
      (refine oneH (i := 10) rfl (by kernel_rfl) (fun K hK => ?_); go_simp)
      clear y0_ y1_ y2_ y3_ y4_ f0_ f1_ f2_ f3_ f4_ l0_
      have n_HKN := Lib.hid (Blk.set' (Blk.set' (Blk.set' (Blk.set' (Blk.set' HKN.out 0 (.int .i64 lst) (cs' := #[.int .i64 lst, .int .i64 0, .int .i64 0, .int .i64 0, .bool false]) rfl) 1 (.int .i64 mst) (cs' := #[.int .i64 lst, .int .i64 mst, .int .i64 0, .int .i64 0, .bool false]) rfl) 2 (.int .i64 pr) (cs' := #[.int .i64 lst, .int .i64 mst, .int .i64 pr, .int .i64 0, .bool false]) rfl) 3 (.int .i64 0) (cs' := #[.int .i64 lst, .int .i64 mst, .int .i64 pr, .int .i64 0, .bool false]) rfl) 4 (.bool false) (cs' := #[.int .i64 lst, .int .i64 mst, .int .i64 pr, .int .i64 0, .bool false]) rfl)
      have n_HK1 := Lib.hid (Blk.other (Blk.other (Blk.other (Blk.other (Blk.other HK1.out (p := ⟨N, 0, none⟩) (by have := HN.out; show w.heap.size ≠ N; omega) (.int .i64 lst)) (p := ⟨N, 1, none⟩) (by have := HN.out; show w.heap.size ≠ N; omega) (.int .i64 mst)) (p := ⟨N, 2, none⟩) (by have := HN.out; show w.heap.size ≠ N; omega) (.int .i64 pr)) (p := ⟨N, 3, none⟩) (by have := HN.out; show w.heap.size ≠ N; omega) (.int .i64 0)) (p := ⟨N, 4, none⟩) (by have := HN.out; show w.heap.size ≠ N; omega) (.bool false))
      have n_HK2 := Lib.hid (Blk.other (Blk.other (Blk.other (Blk.other (Blk.other HK2.out (p := ⟨N, 0, none⟩) (by have := HN.out; show w.heap.size + 1 ≠ N; omega) (.int .i64 lst)) (p := ⟨N, 1, none⟩) (by have := HN.out; show w.heap.size + 1 ≠ N; omega) (.int .i64 mst)) (p := ⟨N, 2, none⟩) (by have := HN.out; show w.heap.size + 1 ≠ N; omega) (.int .i64 pr)) (p := ⟨N, 3, none⟩) (by have := HN.out; show w.heap.size + 1 ≠ N; omega) (.int .i64 0)) (p := ⟨N, 4, none⟩) (by have := HN.out; show w.heap.size + 1 ≠ N; omega) (.bool false))
      have n_HB := Lib.hid (Below.setCell (Below.setCell (Below.setCell (Below.setCell (Below.setCell HB.out (p := ⟨N, 0, none⟩) (by have := HN.out; show w.heap.size ≤ N; omega) (.int .i64 lst)) (p := ⟨N, 1, none⟩) (by have := HN.out; show w.heap.size ≤ N; omega) (.int .i64 mst)) (p := ⟨N, 2, none⟩) (by have := HN.out; show w.heap.size ≤ N; omega) (.int .i64 pr)) (p := ⟨N, 3, none⟩) (by have := HN.out; show w.heap.size ≤ N; omega) (.int .i64 0)) (p := ⟨N, 4, none⟩) (by have := HN.out; show w.heap.size ≤ N; omega) (.bool false))
      clear HKN HK1 HK2 HB HS
      have HKN := n_HKN; have HK1 := n_HK1; have HK2 := n_HK2; have HB := n_HB
      clear n_HKN n_HK1 n_HK2 n_HB
      have HS : (fun V : World => V.rangeAt w.heap.size 0 cs.toList ∧ V.cell? ⟨w.heap.size, 33, none⟩ = some (.int .i64 hi)) _ := ⟨Blk.range HK1.out, (Blk.cell HK1.out 33).trans Q33.out⟩
      (refine hK _ _ ⟨HS, ?_⟩; clear hK K; (try simp only [Act.put, List.setIfInBounds_toArray, List.set_cons_zero, List.set_cons_succ]))
      clear HS
      generalize World.setCell _ ⟨N, 4, none⟩ (.bool false) = W9 at HKN HK1 HK2 HB ⊢
      (refine doneH (by kernel_rfl) ?_ _)
      simp only [Exit.then]
      go_upto_region 6 with fail
      obtain ⟨fc, hfc⟩ : ∃ fc : Array Value, fc = #[.int .i64 lst, .int .i64 mst, .int .i64 pr, .int .i64 0, .bool false] := ⟨_, rfl⟩
      have HF1 := Lib.hid (box_len lst mst pr 0 false)
      have HF2 := Lib.hid (box_one lst mst pr 0 false)
      rw [← hfc] at HKN HF1 HF2
      have HFS := Lib.hid (show fc.size = 5 by rw [hfc]; rfl)
      have HFL : Hid ((Try.prog.info? 43).map (·.size) = some fc.toList.length) := Lib.hid (by rw [HF1.out, Array.length_toList])
      (try clear hrow)
      have hrow := Blk.range HKN.out
      have hT := Blk.there HK2.out fc.size (by rw [HFS.out]; exact Nat.le_refl _)
      go_wp2_with (first | (refine wpList_load_mid rfl 43 _ rfl _ _ rfl _ _ hrow Try.underlying43 rfl HFL.out ?_) | (refine wpList_store_mid rfl 43 _ _ rfl (w.heap.size + 1) 0 fc rfl rfl hT HF1.out HF2.out ?_; have hZ4 := HK2.out.setCells fc.toList (by rw [Array.length_toList, HFS.out]; rfl); have hB5 := below_setCells' (b := w.heap.size + 1) (by omega) fc.toList 0 HB.out; generalize World.setCells _ (w.heap.size + 1) 0 fc.toList = W12 at hZ4 hB5 ⊢; have HZ4 := Lib.hid hZ4; clear hZ4 hT hrow))
      (try simp only [Exit.inBlock, Exit.then])
      refine bodyPost_ret (v := .agg fc) ?_ rfl ⟨by rw [hfc], hB5⟩
      rw [show Value.agg fc = .agg fc.toList.toArray by rw [Array.toArray_toList]]
      exact results_cell_mid Try.results18 _ _ (w.heap.size + 1) 0 fc.toList _ rfl HZ4.out.range Try.underlying43 rfl HFL.out

    · go_simp
      have hN : w.heap.size + 1 < v5.heap.size := Blk.lt HK2.out
      have HKN := Lib.hid (Blk.new v5 43 #[.int .i64 0, .int .i64 0, .int .i64 0, .int .i64 0, .bool false])
      have n_HK1 := Lib.hid (Blk.alloc HK1.out (.cells #[.int .i64 0, .int .i64 0, .int .i64 0, .int .i64 0, .bool false] 43))
      have n_HK2 := Lib.hid (Blk.alloc HK2.out (.cells #[.int .i64 0, .int .i64 0, .int .i64 0, .int .i64 0, .bool false] 43))
      have n_HB := Lib.hid (HB.out.alloc HB.out.size (.cells #[.int .i64 0, .int .i64 0, .int .i64 0, .int .i64 0, .bool false] 43))
      clear HK1 HK2 HB HS
      have HK1 := n_HK1; have HK2 := n_HK2; have HB := n_HB
      clear n_HK1 n_HK2 n_HB
      have HS : (fun V : World => V.rangeAt w.heap.size 0 cs.toList ∧ V.cell? ⟨w.heap.size, 33, none⟩ = some (.int .i64 hi)) (v5.alloc (.cells #[.int .i64 0, .int .i64 0, .int .i64 0, .int .i64 0, .bool false] 43)) := ⟨Blk.range HK1.out, (Blk.cell HK1.out 33).trans Q33.out⟩
      (refine hK _ _ ⟨HS, ?_⟩; clear hK K; (try simp only [Act.put, List.setIfInBounds_toArray, List.set_cons_zero, List.set_cons_succ]))
      generalize v5.alloc (.cells #[.int .i64 0, .int .i64 0, .int .i64 0, .int .i64 0, .bool false] 43) = V8 at HKN HK1 HK2 HB HS ⊢
      generalize v5.heap.size = N at *
      have HN := Lib.hid hN
      clear hN
      (refine oneH (i := 3) rfl (by kernel_rfl) (fun K hK => ?_); go_simp)
      refine (callsIn_wide.2 (HMST.out _ HB.out)).mono ?_
      rintro e v6 ⟨rfl, hb⟩
      dsimp only
      have n_HK1 := Lib.hid (Blk.below HK1.out hb (Blk.lt HK1.out))
      have n_HK2 := Lib.hid (Blk.below HK2.out hb (Blk.lt HK2.out))
      have n_HKN := Lib.hid (Blk.below HKN.out hb (Blk.lt HKN.out))
      have n_HB := Lib.hid (HB.out.trans (hb.mono HB.out.size))
      clear hb HB HS HK1 HK2 HKN
      have HK1 := n_HK1
      have HK2 := n_HK2
      have HKN := n_HKN
      have HB := n_HB
      clear n_HB n_HK1 n_HK2 n_HKN
      have HS : (fun V : World => V.rangeAt w.heap.size 0 cs.toList ∧ V.cell? ⟨w.heap.size, 33, none⟩ = some (.int .i64 hi)) v6 := ⟨Blk.range HK1.out, (Blk.cell HK1.out 33).trans Q33.out⟩
      (refine hK _ _ ⟨HS, ?_⟩; clear hK K; (try simp only [Act.put, List.setIfInBounds_toArray, List.set_cons_zero, List.set_cons_succ]))
      (refine takeH (i := 8) (v := ?_) rfl (by kernel_rfl) (by kernel_rfl) (by kernel_rfl) (by kernel_rfl) (fun _ _ _ h => h) ⟨Or.inl ⟨by rfl, ?_⟩, fun _ => rfl⟩ HS ?_; rotate_left; focus (rintro wS ⟨s1, s2⟩; go_simp; try (with_reducible rfl)); (try simp only [Act.put, List.setIfInBounds_toArray, List.set_cons_zero, List.set_cons_succ]))
      have y0_ := Blk.cell HKN.out 0
      have y1_ := Blk.cell HKN.out 1
      have y2_ := Blk.cell HKN.out 2
      have y3_ := Blk.cell HKN.out 3
      have y4_ := Blk.cell HKN.out 4
      have f0_ := Blk.frozen HKN.out 0
      have f1_ := Blk.frozen HKN.out 1
      have f2_ := Blk.frozen HKN.out 2
      have f3_ := Blk.frozen HKN.out 3
      have f4_ := Blk.frozen HKN.out 4
      have l0_ := Blk.lt HKN.out
      simp only [List.getElem?_toArray, List.getElem?_cons_zero, List.getElem?_cons_succ] at y0_ y1_ y2_ y3_ y4_
      (refine oneH (i := 10) rfl (by kernel_rfl) (fun K hK => ?_); go_simp)
      clear y0_ y1_ y2_ y3_ y4_ f0_ f1_ f2_ f3_ f4_ l0_
      have n_HKN := Lib.hid (Blk.set' (Blk.set' (Blk.set' (Blk.set' (Blk.set' HKN.out 0 (.int .i64 lst) (cs' := #[.int .i64 lst, .int .i64 0, .int .i64 0, .int .i64 0, .bool false]) rfl) 1 (.int .i64 mst) (cs' := #[.int .i64 lst, .int .i64 mst, .int .i64 0, .int .i64 0, .bool false]) rfl) 2 (.int .i64 pr) (cs' := #[.int .i64 lst, .int .i64 mst, .int .i64 pr, .int .i64 0, .bool false]) rfl) 3 (.int .i64 0) (cs' := #[.int .i64 lst, .int .i64 mst, .int .i64 pr, .int .i64 0, .bool false]) rfl) 4 (.bool false) (cs' := #[.int .i64 lst, .int .i64 mst, .int .i64 pr, .int .i64 0, .bool false]) rfl)
      have n_HK1 := Lib.hid (Blk.other (Blk.other (Blk.other (Blk.other (Blk.other HK1.out (p := ⟨N, 0, none⟩) (by have := HN.out; show w.heap.size ≠ N; omega) (.int .i64 lst)) (p := ⟨N, 1, none⟩) (by have := HN.out; show w.heap.size ≠ N; omega) (.int .i64 mst)) (p := ⟨N, 2, none⟩) (by have := HN.out; show w.heap.size ≠ N; omega) (.int .i64 pr)) (p := ⟨N, 3, none⟩) (by have := HN.out; show w.heap.size ≠ N; omega) (.int .i64 0)) (p := ⟨N, 4, none⟩) (by have := HN.out; show w.heap.size ≠ N; omega) (.bool false))
      have n_HK2 := Lib.hid (Blk.other (Blk.other (Blk.other (Blk.other (Blk.other HK2.out (p := ⟨N, 0, none⟩) (by have := HN.out; show w.heap.size + 1 ≠ N; omega) (.int .i64 lst)) (p := ⟨N, 1, none⟩) (by have := HN.out; show w.heap.size + 1 ≠ N; omega) (.int .i64 mst)) (p := ⟨N, 2, none⟩) (by have := HN.out; show w.heap.size + 1 ≠ N; omega) (.int .i64 pr)) (p := ⟨N, 3, none⟩) (by have := HN.out; show w.heap.size + 1 ≠ N; omega) (.int .i64 0)) (p := ⟨N, 4, none⟩) (by have := HN.out; show w.heap.size + 1 ≠ N; omega) (.bool false))
      have n_HB := Lib.hid (Below.setCell (Below.setCell (Below.setCell (Below.setCell (Below.setCell HB.out (p := ⟨N, 0, none⟩) (by have := HN.out; show w.heap.size ≤ N; omega) (.int .i64 lst)) (p := ⟨N, 1, none⟩) (by have := HN.out; show w.heap.size ≤ N; omega) (.int .i64 mst)) (p := ⟨N, 2, none⟩) (by have := HN.out; show w.heap.size ≤ N; omega) (.int .i64 pr)) (p := ⟨N, 3, none⟩) (by have := HN.out; show w.heap.size ≤ N; omega) (.int .i64 0)) (p := ⟨N, 4, none⟩) (by have := HN.out; show w.heap.size ≤ N; omega) (.bool false))
      clear HKN HK1 HK2 HB HS
      have HKN := n_HKN; have HK1 := n_HK1; have HK2 := n_HK2; have HB := n_HB
      clear n_HKN n_HK1 n_HK2 n_HB
      have HS : (fun V : World => V.rangeAt w.heap.size 0 cs.toList ∧ V.cell? ⟨w.heap.size, 33, none⟩ = some (.int .i64 hi)) _ := ⟨Blk.range HK1.out, (Blk.cell HK1.out 33).trans Q33.out⟩
      (refine hK _ _ ⟨HS, ?_⟩; clear hK K; (try simp only [Act.put, List.setIfInBounds_toArray, List.set_cons_zero, List.set_cons_succ]))
      clear HS
      generalize World.setCell _ ⟨N, 4, none⟩ (.bool false) = W9 at HKN HK1 HK2 HB ⊢
      (refine doneH (by kernel_rfl) ?_ _)
      simp only [Exit.then]
      go_upto_region 6 with fail
      obtain ⟨fc, hfc⟩ : ∃ fc : Array Value, fc = #[.int .i64 lst, .int .i64 mst, .int .i64 pr, .int .i64 0, .bool false] := ⟨_, rfl⟩
      have HF1 := Lib.hid (box_len lst mst pr 0 false)
      have HF2 := Lib.hid (box_one lst mst pr 0 false)
      rw [← hfc] at HKN HF1 HF2
      have HFS := Lib.hid (show fc.size = 5 by rw [hfc]; rfl)
      have HFL : Hid ((Try.prog.info? 43).map (·.size) = some fc.toList.length) := Lib.hid (by rw [HF1.out, Array.length_toList])
      (try clear hrow)
      have hrow := Blk.range HKN.out
      have hT := Blk.there HK2.out fc.size (by rw [HFS.out]; exact Nat.le_refl _)
      go_wp2_with (first | (refine wpList_load_mid rfl 43 _ rfl _ _ rfl _ _ hrow Try.underlying43 rfl HFL.out ?_) | (refine wpList_store_mid rfl 43 _ _ rfl (w.heap.size + 1) 0 fc rfl rfl hT HF1.out HF2.out ?_; have hZ4 := HK2.out.setCells fc.toList (by rw [Array.length_toList, HFS.out]; rfl); have hB5 := below_setCells' (b := w.heap.size + 1) (by omega) fc.toList 0 HB.out; generalize World.setCells _ (w.heap.size + 1) 0 fc.toList = W12 at hZ4 hB5 ⊢; have HZ4 := Lib.hid hZ4; clear hZ4 hT hrow))
      (try simp only [Exit.inBlock, Exit.then])
      refine bodyPost_ret (v := .agg fc) ?_ rfl ⟨by rw [hfc], hB5⟩
      rw [show Value.agg fc = .agg fc.toList.toArray by rw [Array.toArray_toList]]
      exact results_cell_mid Try.results18 _ _ (w.heap.size + 1) 0 fc.toList _ rfl HZ4.out.range Try.underlying43 rfl HFL.out


  · go_simp
    have hN : w.heap.size + 1 < V0.heap.size := Blk.lt HK2.out
    have HKN := Lib.hid (Blk.new V0 43 #[.int .i64 0, .int .i64 0, .int .i64 0, .int .i64 0, .bool false])
    have n_HK1 := Lib.hid (Blk.alloc HK1.out (.cells #[.int .i64 0, .int .i64 0, .int .i64 0, .int .i64 0, .bool false] 43))
    have n_HK2 := Lib.hid (Blk.alloc HK2.out (.cells #[.int .i64 0, .int .i64 0, .int .i64 0, .int .i64 0, .bool false] 43))
    have n_HB := Lib.hid (HB.out.alloc HB.out.size (.cells #[.int .i64 0, .int .i64 0, .int .i64 0, .int .i64 0, .bool false] 43))
    clear HK1 HK2 HB HS
    have HK1 := n_HK1; have HK2 := n_HK2; have HB := n_HB
    clear n_HK1 n_HK2 n_HB
    have HS : (fun V : World => V.rangeAt w.heap.size 0 cs.toList ∧ V.cell? ⟨w.heap.size, 33, none⟩ = some (.int .i64 hi)) (V0.alloc (.cells #[.int .i64 0, .int .i64 0, .int .i64 0, .int .i64 0, .bool false] 43)) := ⟨Blk.range HK1.out, (Blk.cell HK1.out 33).trans Q33.out⟩
    (refine hK _ _ ⟨HS, ?_⟩; clear hK K; (try simp only [Act.put, List.setIfInBounds_toArray, List.set_cons_zero, List.set_cons_succ]))
    generalize V0.alloc (.cells #[.int .i64 0, .int .i64 0, .int .i64 0, .int .i64 0, .bool false] 43) = V8 at HKN HK1 HK2 HB HS ⊢
    generalize V0.heap.size = N at *
    have HN := Lib.hid hN
    clear hN
    (refine oneH (i := 1) rfl (by kernel_rfl) (fun K hK => ?_); go_simp)
    refine (callsIn_wide.2 (HLST.out _ HB.out)).mono ?_
    rintro e v5 ⟨rfl, hb⟩
    dsimp only
    have n_HK1 := Lib.hid (Blk.below HK1.out hb (Blk.lt HK1.out))
    have n_HK2 := Lib.hid (Blk.below HK2.out hb (Blk.lt HK2.out))
    have n_HKN := Lib.hid (Blk.below HKN.out hb (Blk.lt HKN.out))
    have n_HB := Lib.hid (HB.out.trans (hb.mono HB.out.size))
    clear hb HB HS HK1 HK2 HKN
    have HK1 := n_HK1
    have HK2 := n_HK2
    have HKN := n_HKN
    have HB := n_HB
    clear n_HB n_HK1 n_HK2 n_HKN
    have HS : (fun V : World => V.rangeAt w.heap.size 0 cs.toList ∧ V.cell? ⟨w.heap.size, 33, none⟩ = some (.int .i64 hi)) v5 := ⟨Blk.range HK1.out, (Blk.cell HK1.out 33).trans Q33.out⟩
    (refine hK _ _ ⟨HS, ?_⟩; clear hK K; (try simp only [Act.put, List.setIfInBounds_toArray, List.set_cons_zero, List.set_cons_succ]))
    (refine oneH (i := 3) rfl (by kernel_rfl) (fun K hK => ?_); go_simp)
    refine (callsIn_wide.2 (HMST.out _ HB.out)).mono ?_
    rintro e v6 ⟨rfl, hb⟩
    dsimp only
    have n_HK1 := Lib.hid (Blk.below HK1.out hb (Blk.lt HK1.out))
    have n_HK2 := Lib.hid (Blk.below HK2.out hb (Blk.lt HK2.out))
    have n_HKN := Lib.hid (Blk.below HKN.out hb (Blk.lt HKN.out))
    have n_HB := Lib.hid (HB.out.trans (hb.mono HB.out.size))
    clear hb HB HS HK1 HK2 HKN
    have HK1 := n_HK1
    have HK2 := n_HK2
    have HKN := n_HKN
    have HB := n_HB
    clear n_HB n_HK1 n_HK2 n_HKN
    have HS : (fun V : World => V.rangeAt w.heap.size 0 cs.toList ∧ V.cell? ⟨w.heap.size, 33, none⟩ = some (.int .i64 hi)) v6 := ⟨Blk.range HK1.out, (Blk.cell HK1.out 33).trans Q33.out⟩
    (refine hK _ _ ⟨HS, ?_⟩; clear hK K; (try simp only [Act.put, List.setIfInBounds_toArray, List.set_cons_zero, List.set_cons_succ]))
    (refine takeH (i := 8) (v := ?_) rfl (by kernel_rfl) (by kernel_rfl) (by kernel_rfl) (by kernel_rfl) (fun _ _ _ h => h) ⟨Or.inl ⟨by rfl, ?_⟩, fun _ => rfl⟩ HS ?_; rotate_left; focus (rintro wS ⟨s1, s2⟩; go_simp; try (with_reducible rfl)); (try simp only [Act.put, List.setIfInBounds_toArray, List.set_cons_zero, List.set_cons_succ]))
    have y0_ := Blk.cell HKN.out 0
    have y1_ := Blk.cell HKN.out 1
    have y2_ := Blk.cell HKN.out 2
    have y3_ := Blk.cell HKN.out 3
    have y4_ := Blk.cell HKN.out 4
    have f0_ := Blk.frozen HKN.out 0
    have f1_ := Blk.frozen HKN.out 1
    have f2_ := Blk.frozen HKN.out 2
    have f3_ := Blk.frozen HKN.out 3
    have f4_ := Blk.frozen HKN.out 4
    have l0_ := Blk.lt HKN.out
    simp only [List.getElem?_toArray, List.getElem?_cons_zero, List.getElem?_cons_succ] at y0_ y1_ y2_ y3_ y4_
    (refine oneH (i := 10) rfl (by kernel_rfl) (fun K hK => ?_); go_simp)
    clear y0_ y1_ y2_ y3_ y4_ f0_ f1_ f2_ f3_ f4_ l0_
    have n_HKN := Lib.hid (Blk.set' (Blk.set' (Blk.set' (Blk.set' (Blk.set' HKN.out 0 (.int .i64 lst) (cs' := #[.int .i64 lst, .int .i64 0, .int .i64 0, .int .i64 0, .bool false]) rfl) 1 (.int .i64 mst) (cs' := #[.int .i64 lst, .int .i64 mst, .int .i64 0, .int .i64 0, .bool false]) rfl) 2 (.int .i64 pr) (cs' := #[.int .i64 lst, .int .i64 mst, .int .i64 pr, .int .i64 0, .bool false]) rfl) 3 (.int .i64 0) (cs' := #[.int .i64 lst, .int .i64 mst, .int .i64 pr, .int .i64 0, .bool false]) rfl) 4 (.bool false) (cs' := #[.int .i64 lst, .int .i64 mst, .int .i64 pr, .int .i64 0, .bool false]) rfl)
    have n_HK1 := Lib.hid (Blk.other (Blk.other (Blk.other (Blk.other (Blk.other HK1.out (p := ⟨N, 0, none⟩) (by have := HN.out; show w.heap.size ≠ N; omega) (.int .i64 lst)) (p := ⟨N, 1, none⟩) (by have := HN.out; show w.heap.size ≠ N; omega) (.int .i64 mst)) (p := ⟨N, 2, none⟩) (by have := HN.out; show w.heap.size ≠ N; omega) (.int .i64 pr)) (p := ⟨N, 3, none⟩) (by have := HN.out; show w.heap.size ≠ N; omega) (.int .i64 0)) (p := ⟨N, 4, none⟩) (by have := HN.out; show w.heap.size ≠ N; omega) (.bool false))
    have n_HK2 := Lib.hid (Blk.other (Blk.other (Blk.other (Blk.other (Blk.other HK2.out (p := ⟨N, 0, none⟩) (by have := HN.out; show w.heap.size + 1 ≠ N; omega) (.int .i64 lst)) (p := ⟨N, 1, none⟩) (by have := HN.out; show w.heap.size + 1 ≠ N; omega) (.int .i64 mst)) (p := ⟨N, 2, none⟩) (by have := HN.out; show w.heap.size + 1 ≠ N; omega) (.int .i64 pr)) (p := ⟨N, 3, none⟩) (by have := HN.out; show w.heap.size + 1 ≠ N; omega) (.int .i64 0)) (p := ⟨N, 4, none⟩) (by have := HN.out; show w.heap.size + 1 ≠ N; omega) (.bool false))
    have n_HB := Lib.hid (Below.setCell (Below.setCell (Below.setCell (Below.setCell (Below.setCell HB.out (p := ⟨N, 0, none⟩) (by have := HN.out; show w.heap.size ≤ N; omega) (.int .i64 lst)) (p := ⟨N, 1, none⟩) (by have := HN.out; show w.heap.size ≤ N; omega) (.int .i64 mst)) (p := ⟨N, 2, none⟩) (by have := HN.out; show w.heap.size ≤ N; omega) (.int .i64 pr)) (p := ⟨N, 3, none⟩) (by have := HN.out; show w.heap.size ≤ N; omega) (.int .i64 0)) (p := ⟨N, 4, none⟩) (by have := HN.out; show w.heap.size ≤ N; omega) (.bool false))
    clear HKN HK1 HK2 HB HS
    have HKN := n_HKN; have HK1 := n_HK1; have HK2 := n_HK2; have HB := n_HB
    clear n_HKN n_HK1 n_HK2 n_HB
    have HS : (fun V : World => V.rangeAt w.heap.size 0 cs.toList ∧ V.cell? ⟨w.heap.size, 33, none⟩ = some (.int .i64 hi)) _ := ⟨Blk.range HK1.out, (Blk.cell HK1.out 33).trans Q33.out⟩
    (refine hK _ _ ⟨HS, ?_⟩; clear hK K; (try simp only [Act.put, List.setIfInBounds_toArray, List.set_cons_zero, List.set_cons_succ]))
    clear HS
    generalize World.setCell _ ⟨N, 4, none⟩ (.bool false) = W9 at HKN HK1 HK2 HB ⊢
    (refine doneH (by kernel_rfl) ?_ _)
    simp only [Exit.then]
    go_upto_region 6 with fail
    obtain ⟨fc, hfc⟩ : ∃ fc : Array Value, fc = #[.int .i64 lst, .int .i64 mst, .int .i64 pr, .int .i64 0, .bool false] := ⟨_, rfl⟩
    have HF1 := Lib.hid (box_len lst mst pr 0 false)
    have HF2 := Lib.hid (box_one lst mst pr 0 false)
    rw [← hfc] at HKN HF1 HF2
    have HFS := Lib.hid (show fc.size = 5 by rw [hfc]; rfl)
    have HFL : Hid ((Try.prog.info? 43).map (·.size) = some fc.toList.length) := Lib.hid (by rw [HF1.out, Array.length_toList])
    (try clear hrow)
    have hrow := Blk.range HKN.out
    have hT := Blk.there HK2.out fc.size (by rw [HFS.out]; exact Nat.le_refl _)
    go_wp2_with (first | (refine wpList_load_mid rfl 43 _ rfl _ _ rfl _ _ hrow Try.underlying43 rfl HFL.out ?_) | (refine wpList_store_mid rfl 43 _ _ rfl (w.heap.size + 1) 0 fc rfl rfl hT HF1.out HF2.out ?_; have hZ4 := HK2.out.setCells fc.toList (by rw [Array.length_toList, HFS.out]; rfl); have hB5 := below_setCells' (b := w.heap.size + 1) (by omega) fc.toList 0 HB.out; generalize World.setCells _ (w.heap.size + 1) 0 fc.toList = W12 at hZ4 hB5 ⊢; have HZ4 := Lib.hid hZ4; clear hZ4 hT hrow))
    (try simp only [Exit.inBlock, Exit.then])
    refine bodyPost_ret (v := .agg fc) ?_ rfl ⟨by rw [hfc], hB5⟩
    rw [show Value.agg fc = .agg fc.toList.toArray by rw [Array.toArray_toList]]
    exact results_cell_mid Try.results18 _ _ (w.heap.size + 1) 0 fc.toList _ rfl HZ4.out.range Try.underlying43 rfl HFL.out


theorem refbox_any (A1 : Option Addr) (c1 : Nat) (A3 : Option Addr) (c3 : Nat) (n : Nd) (width : Int) (w : World) (hr1 : Kd.C (Kd.int .i64) w A1 n.f1.length n.f1) (hc1 : n.f1.length ≤ c1) (hr3 : Kd.C (Kd.int .i64) w A3 n.f3.length n.f3) (hc3 : n.f3.length ≤ c3) (hR : rightB n = true) :
    Calls Try.prog 18 #[.agg (nodeC A1 c1 A3 c3 n), .int .i64 width] w fun e w' => e = .returned (.agg (boxC n width)) ∧ Below w.heap.size w w' := by
  unfold boxC
  by_cases hnl : 0 < (linesP n width).length
  · rw [if_pos hnl, decide_eq_true hnl]
    exact refbox_pos A1 c1 A3 c3 n width w hr1 hc1 hr3 hc3 hR hnl
  · rw [if_neg hnl, decide_eq_false hnl]
    exact refbox_none A1 c1 A3 c3 n width w hr1 hc1 hr3 hc3 hR (by omega)

end Go.Proofs.Yteckkphbgfmolaa.K