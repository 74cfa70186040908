/- Layer 8: the laws' heads. -/
import Derived.Test.YteckkphbgfmolaaLnY
import Derived.Test.YteckkphbgfmolaaK3
import Derived.KernelRfl
namespace Go.Proofs.Yteckkphbgfmolaa.K
open Go.RowKit Go.Proofs.YteckkphbgfmolaaW.PrintWords Go.Proofs.YteckkphbgfmolaaW.PrintLast Go.Proofs.YteckkphbgfmolaaW.PrintMore Go.Proofs.Yteckkphbgfmolaa.Pure
set_option linter.unusedVariables false
set_option linter.unusedSimpArgs false
/-- what every law has behind its head: the node's cells as the laws' boxes hold them -/
structure NodeK (cs : Array Value) : Prop where
  len : (Try.prog.info? 35).map (·.size) = some cs.toList.length
  len2 : (Try.prog.info? 35).map (·.size) = some cs.size
  one : cs.all (·.oneCell') = true
  size : cs.size = 34
theorem nodeK (A1 : Option Addr) (c1 : Nat) (A3 : Option Addr) (c3 : Nat) (n : Nd) : NodeK (nodeC A1 c1 A3 c3 n) :=
  ⟨by kernel_rfl, by kernel_rfl, by have := all_oneCell_toArray (nodeC_one A1 c1 A3 c3 n); rwa [Array.toArray_toList] at this, rfl⟩
def nodeZ : Nd := ⟨0, [], ⟨⟨0, 0⟩, ⟨0, 0⟩, ⟨0, 0, 0, 0⟩, ⟨⟨0, 0, 0⟩, ⟨0, 0, 0⟩, ⟨0, 0, 0⟩, ⟨0, 0, 0⟩⟩, 0, 0, 0, false, false, ⟨0, 0⟩, false, false⟩, [], 0, 0⟩
def nodeS : Nd := { nodeZ with f0 := 1, f3 := [3, 4, 5], f4 := 1, f5 := 8 }
theorem c_rows2 (W : World) (t : TypeId) (a b c d : Int) : Kd.C k57 (W.alloc (.cells #[.int .i64 a, .int .i64 b, .int .i64 c, .int .i64 d] t)) (some ⟨W.heap.size, 0, none⟩) [(⟨a, b⟩ : S57), ⟨c, d⟩].length [(⟨a, b⟩ : S57), ⟨c, d⟩] :=
  ⟨rfl, by simp, fun _ => ⟨_, rfl, fun j p hj => by
    match j, hj with
    | 0, hj => simp at hj; subst hj; exact ⟨[.int .i64 a, .int .i64 b], rfl, k57_mk _ _, fun i u hu => by
        match i, hu with
        | 0, hu => simp at hu; subst hu; simp [Addr.add]
        | 1, hu => simp at hu; subst hu; simp [Addr.add]⟩
    | 1, hj => simp at hj; subst hj; exact ⟨[.int .i64 c, .int .i64 d], rfl, k57_mk _ _, fun i u hu => by
        match i, hu with
        | 0, hu => simp at hu; subst hu; simp [Addr.add, k57, Kd.iso, Kd.pair, Kd.int, Kd.scalar]
        | 1, hu => simp at hu; subst hu; simp [Addr.add, k57, Kd.iso, Kd.pair, Kd.int, Kd.scalar]⟩⟩⟩
theorem eqBox (d : Nat) (w : World) (x0 y0 : Int) (x1 y1 : Int) (x2 y2 : Int) (x3 y3 : Int) (x4 y4 : Bool) :
    (Op.equalIn (d + 2) 43 (.agg #[.int .i64 x0, .int .i64 x1, .int .i64 x2, .int .i64 x3, .bool x4]) (.agg #[.int .i64 y0, .int .i64 y1, .int .i64 y2, .int .i64 y3, .bool y4])).run Try.prog w = .ok (x0 == y0 && (x1 == y1 && (x2 == y2 && (x3 == y3 && (x4 == y4))))) w := by
  refine eqA_of Try.underlying43 (by kernel_rfl) ?_
  refine eqf_cons (by rfl) (by go_simp; rfl) (by go_simp; rfl) (by go_simp) ?_
  refine eqf_cons (by rfl) (by go_simp; rfl) (by go_simp; rfl) (by go_simp) ?_
  refine eqf_cons (by rfl) (by go_simp; rfl) (by go_simp; rfl) (by go_simp) ?_
  refine eqf_cons (by rfl) (by go_simp; rfl) (by go_simp; rfl) (by go_simp) ?_
  exact eqf_last (by rfl) (by go_simp; rfl) (by go_simp; rfl) (by go_simp)
attribute [local go_sem high] eqBox
theorem same_yes (A c A' c') (l : List S57) (V : World) (k : Nat) (hr : Kd.C k57 V A l.length l) (hc : l.length ≤ c) (hr' : Kd.C k57 V A' l.length l) (hc' : l.length ≤ c') (h : purflingref08_Same.f k l l = some true) :
    Calls Try.prog 16 #[.slice A l.length c, .slice A' l.length c'] V fun e w' => e = .returned (.bool true) ∧ Drawn0 V w' := purflingref08_Same.calls k A c l A' c' l true V hr hc hr' hc' h
theorem shownE : linesE nodeS 8 = ([(0, 2), (2, 3)], 0) := by decide
theorem shownB : boxE nodeS 8 = (#[.int .i64 5, .int .i64 14, .int .i64 16, .int .i64 6, .bool true], 0) := by kernel_rfl
theorem shownW : widesP nodeZ 0 nodeZ.f3.length = (0, 90) := by decide
set_option maxRecDepth 100000 in
set_option maxHeartbeats 4000000 in
theorem shown_any (w : World) : Calls Try.prog 10 #[] w fun e w' => e = .returned (.bool true) ∧ Below w.heap.size w w' := by
  have hk := nodeK none 0 (some ⟨w.heap.size, 0, none⟩) 3 nodeS
  have hkz := nodeK none 0 none 0 nodeZ
  obtain ⟨W1, hW1⟩ : ∃ W1, W1 = w.alloc (.cells #[.int .i64 3, .int .i64 4, .int .i64 5] 2) := ⟨_, rfl⟩
  have hs1 : W1.heap.size = w.heap.size + 1 := by rw [hW1, World.size_alloc]
  have hC : ∀ V, Below (w.heap.size + 1) W1 V → Kd.C (Kd.int .i64) V (some ⟨w.heap.size, 0, none⟩) nodeS.f3.length nodeS.f3 := fun V hV => Kd.C_below (w := W1) (hW1 ▸ c_three w _ 3 4 5) (hs1 ▸ hV)
  have hb1 : Below w.heap.size w W1 := hW1 ▸ (Below.refl _ w).alloc (Nat.le_refl _) _
  have HBRK := Lib.hid (fun (V : World) (hV : Below (w.heap.size + 1) W1 V) => break_any none 0 (some ⟨w.heap.size, 0, none⟩) 3 nodeS 8 V (Kd.C_nil _ _) (Nat.le_refl _) (hC V hV) (by decide))
  have HBOX := Lib.hid (fun (V : World) (hV : Below (w.heap.size + 1) W1 V) => box_any none 0 (some ⟨w.heap.size, 0, none⟩) 3 nodeS 8 V (Kd.C_nil _ _) (Nat.le_refl _) (hC V hV) (by decide))
  have HMST := Lib.hid (fun (V : World) => most_any none 0 none 0 nodeZ V (Kd.C_nil _ _) (Nat.le_refl _) (Kd.C_nil _ _) (Nat.le_refl _))
  rw [shownE] at HBRK
  rw [shownB] at HBOX
  rw [shownW] at HMST
  dsimp only [List.length_cons, List.length_nil, Nat.reduceAdd] at HBRK HBOX HMST
  have hT : World.there (W1.alloc (.cells (nodeC none 0 none 0 nodeZ) 35)) (w.heap.size + 1) 0 (nodeC none 0 (some ⟨w.heap.size, 0, none⟩) 3 nodeS).size := by
    have h := Blk.new W1 35 (nodeC none 0 none 0 nodeZ)
    rw [hs1] at h
    exact Blk.there h _ (by rw [hk.size, hkz.size]; exact Nat.le_refl _)
  have hK1 : Blk ((W1.alloc (.cells (nodeC none 0 none 0 nodeZ) 35)).setCells (w.heap.size + 1) 0 (nodeC none 0 (some ⟨w.heap.size, 0, none⟩) 3 nodeS).toList) (w.heap.size + 1) 35 (nodeC none 0 (some ⟨w.heap.size, 0, none⟩) 3 nodeS) := by
    have h := Blk.new W1 35 (nodeC none 0 none 0 nodeZ)
    rw [hs1] at h
    exact h.setCells _ (by rw [Array.length_toList, hk.size, hkz.size])
  have hB : Below (w.heap.size + 1) W1 ((W1.alloc (.cells (nodeC none 0 none 0 nodeZ) 35)).setCells (w.heap.size + 1) 0 (nodeC none 0 (some ⟨w.heap.size, 0, none⟩) 3 nodeS).toList) := below_setCells' (b := w.heap.size + 1) (Nat.le_refl _) _ 0 ((Below.refl (w.heap.size + 1) W1).alloc (by omega) _)
  rw [hW1] at hT
  obtain ⟨cs, hcs⟩ : ∃ cs, cs = nodeC none 0 (some ⟨w.heap.size, 0, none⟩) 3 nodeS := ⟨_, rfl⟩
  obtain ⟨z, hz⟩ : ∃ z, z = nodeC none 0 none 0 nodeZ := ⟨_, rfl⟩
  have hcv : (nodeC none 0 (some ⟨w.heap.size, 0, none⟩) 3 nodeS) = #[.int .i64 1, .slice none 0 0, .int .i64 0, .int .i64 0, .int .i64 0, .int .i64 0, .int .i64 0, .int .i64 0, .int .i64 0, .int .i64 0, .int .i64 0, .int .i64 0, .int .u32 0, .int .i64 0, .int .i64 0, .int .u32 0, .int .i64 0, .int .i64 0, .int .u32 0, .int .i64 0, .int .i64 0, .int .u32 0, .int .i64 0, .int .i64 0, .int .i64 0, .bool false, .bool false, .int .i64 0, .int .i64 0, .bool false, .bool false, .slice (some ⟨w.heap.size, 0, none⟩) 3 3, .int .i64 1, .int .i64 8] := rfl
  have hzv : (nodeC none 0 none 0 nodeZ) = #[.int .i64 0, .slice none 0 0, .int .i64 0, .int .i64 0, .int .i64 0, .int .i64 0, .int .i64 0, .int .i64 0, .int .i64 0, .int .i64 0, .int .i64 0, .int .i64 0, .int .u32 0, .int .i64 0, .int .i64 0, .int .u32 0, .int .i64 0, .int .i64 0, .int .u32 0, .int .i64 0, .int .i64 0, .int .u32 0, .int .i64 0, .int .i64 0, .int .i64 0, .bool false, .bool false, .int .i64 0, .int .i64 0, .bool false, .bool false, .slice none 0 0, .int .i64 0, .int .i64 0] := rfl
  have HK := Lib.hid hk
  have HKZ := Lib.hid hkz
  have HKV := Lib.hid (hcv.symm.trans hcs.symm)
  have HZV := Lib.hid (hzv.symm.trans hz.symm)
  have HK1 := Lib.hid hK1
  have HB := Lib.hid hB
  have HB1 := Lib.hid hb1
  have HL1 : Hid (w.heap.size + 1 ≤ W1.heap.size) := Lib.hid (Nat.le_of_eq hs1.symm)
  have HW1 := Lib.hid hW1
  have HCS := Lib.hid hcs
  have HCZ := Lib.hid hz
  clear hk hkz hC hcv hzv hK1 hB hb1 hs1 hW1 hcs hz
  go_enter Try.func10, Try.ntmps10
  go_upto_region 1 with fail
  go_upto_region 2 with (refine wpList_store_mid rfl 35 _ _ rfl (w.heap.size + 1) 0 (nodeC none 0 (some ⟨w.heap.size, 0, none⟩) 3 nodeS) rfl rfl hT HK.out.len2 HK.out.one ?_)
  rw [HKV.out, HZV.out, ← HW1.out, ← HCS.out]
  rw [← HCS.out, ← HCZ.out] at HK1 HB
  rw [← HCS.out] at HK HBRK HBOX
  clear hT HKV HW1 HCS HCZ HKZ HZV
  generalize World.setCells (W1.alloc (.cells z 35)) (w.heap.size + 1) 0 cs.toList = W2 at HK1 HB ⊢
  have hrow := Blk.range HK1.out
  have HR0 : Hid True := Lib.hid trivial
  go_upto_region 3 with (first | (refine wpList_load_mid rfl 35 _ rfl _ _ rfl _ _ hrow Try.underlying35 rfl HK.out.len ?_) | (go_at_call 12; go_loud (refine (HBRK.out _ HB.out).mono ?_; rintro e w3 ⟨A, c, rfl, hr, hb⟩; have HR := Lib.hid hr; have n_HK1 := Lib.hid (Blk.below HK1.out hb (Blk.lt HK1.out)); have n_HB := Lib.hid (HB.out.trans (hb.mono (Nat.le_trans HL1.out HB.out.size))); clear HK1 HB hr hb; have HK1 := n_HK1; have HB := n_HB; clear n_HK1 n_HB; replace hrow := Blk.range HK1.out)))
  go_upto_region 4 with (first | (refine wpList_load_mid rfl 35 _ rfl _ _ rfl _ _ hrow Try.underlying35 rfl HK.out.len ?_) | (go_at_call 13; refine (HBOX.out _ HB.out).mono ?_; rintro e w4 ⟨rfl, hb⟩; have n_HR := Lib.hid (Kd.R_below HR.out hb); have n_HK1 := Lib.hid (Blk.below HK1.out hb (Blk.lt HK1.out)); have n_HB := Lib.hid (HB.out.trans (hb.mono (Nat.le_trans HL1.out HB.out.size))); clear HK1 HB HR hb; have HK1 := n_HK1; have HB := n_HB; have HR := n_HR; clear n_HK1 n_HB n_HR; replace hrow := Blk.range HK1.out))
  have HKN := Lib.hid (Blk.new w4 43 #[.int .i64 5, .int .i64 14, .int .i64 16, .int .i64 6, .bool true])
  have n_HR := Lib.hid (Kd.R_alloc HR.out (.cells #[.int .i64 5, .int .i64 14, .int .i64 16, .int .i64 6, .bool true] 43))
  have n_HB := Lib.hid (HB.out.alloc (Nat.le_trans HL1.out HB.out.size) (.cells #[.int .i64 5, .int .i64 14, .int .i64 16, .int .i64 6, .bool true] 43))
  clear HR HB HK1 hrow
  have HB := n_HB; have HR := n_HR
  clear n_HB n_HR
  generalize w4.alloc (.cells #[.int .i64 5, .int .i64 14, .int .i64 16, .int .i64 6, .bool true] 43) = W5 at HKN HB HR ⊢
  generalize w4.heap.size = N at *
  go_upto_region 5 with (go_at_call 21; refine (HMST.out _).mono ?_; rintro e w6 ⟨rfl, hb⟩; have n_HR := Lib.hid (Kd.R_below HR.out hb); have n_HKN := Lib.hid (Blk.below HKN.out hb (Blk.lt HKN.out)); have n_HB := Lib.hid (HB.out.trans (hb.mono (Nat.le_trans HL1.out HB.out.size))); clear HKN HB HR hb; have HKN := n_HKN; have HB := n_HB; have HR := n_HR; clear n_HKN n_HB n_HR)
  have hCl := Kd.R_reads' (Kd.R_alloc HR.out (.cells #[.int .i64 0, .int .i64 2, .int .i64 2, .int .i64 3] 57))
  have HSM := Lib.hid (same_yes A c (some ⟨w6.heap.size, 0, none⟩) 2 [(⟨0, 2⟩ : S57), ⟨2, 3⟩] (w6.alloc (.cells #[.int .i64 0, .int .i64 2, .int .i64 2, .int .i64 3] 57)) 5 hCl.2.2 hCl.2.1 (c_rows2 w6 _ 0 2 2 3) (Nat.le_refl _) (by kernel_rfl))
  have HBK := Lib.hid (Blk.alloc HKN.out (.cells #[.int .i64 0, .int .i64 2, .int .i64 2, .int .i64 3] 57))
  have n_HB := Lib.hid (HB.out.alloc (Nat.le_trans HL1.out HB.out.size) (.cells #[.int .i64 0, .int .i64 2, .int .i64 2, .int .i64 3] 57))
  clear hCl HB HR HKN
  have HB := n_HB
  clear n_HB
  go_wp2_with (first | ((try (refine gate_guard (by rfl) ?_; dsimp only)); go_at_call 16; go_loud (refine HSM.out.mono ?_; rintro e w7 ⟨rfl, hb⟩; have n_HB := Lib.hid (HB.out.trans (hb.below.mono (Nat.le_trans HL1.out HB.out.size))); have hrowB := Blk.range (Blk.below HBK.out hb.below (Blk.lt HBK.out)); clear HB hb HSM HBK)) | ((try (refine gate_guard (by rfl) ?_; dsimp only)); refine wpList_load_mid rfl 43 _ rfl _ _ rfl _ _ hrowB Try.underlying43 rfl (box_len2 ..) ?_))
  go_ret
  exact ⟨rfl, HB1.out.trans (n_HB.out.mono (by omega))⟩
def purflinglaw08_shown.f : Option Bool := some true
theorem purflinglaw08_shown.calls (r : Bool) (w : World) (h : purflinglaw08_shown.f = some r) :
    Calls Try.prog 10 #[] w fun e w' => e = .returned (.bool r) ∧ Below w.heap.size w w' := by
  cases h; exact shown_any w
theorem cutN_len (n : Nd) : (cutN n).f3.length ≤ 200 := by
  unfold cutN
  have := mn_le n.f3.length 200 (by decide)
  dsimp only
  rw [List.length_take]; omega
theorem cutN_C {W : World} {A3 : Option Addr} {n : Nd} (h : Kd.C (Kd.int .i64) W A3 n.f3.length n.f3) : Kd.C (Kd.int .i64) W A3 (cutN n).f3.length (cutN n).f3 := by
  have h0 := mn_le n.f3.length 200 (by decide)
  obtain ⟨ii, hii, _, hsz, _⟩ := info_parts info2
  obtain ⟨-, hr, -⟩ := print_take_of (P := Try.prog) (Value.int .i64) 0 33 2 .i64 Try.underlying33 hii hsz A3 n.f3.length n.f3 (mn (n.f3.length : Int) 200) h0.1 h0.2.1 (Nat.le_refl _)
  exact Kd.C_of_reads (h1 := fun _ => rfl) (hr _ (Kd.reads_of_C h))
theorem cutN_le {n : Nd} {c3 : Nat} (h : n.f3.length ≤ c3) : (cutN n).f3.length ≤ c3 := by
  unfold cutN; dsimp only; rw [List.length_take]; omega
end Go.Proofs.Yteckkphbgfmolaa.K
