/- Layer 8: the laws' cut. -/
import Derived.Test.YteckkphbgfmolaaLnW
namespace Go.Proofs.Yteckkphbgfmolaa.K
open Go.RowKit Go.Proofs.YteckkphbgfmolaaW.PrintWords Go.Proofs.YteckkphbgfmolaaW.PrintLast Go.Proofs.YteckkphbgfmolaaW.PrintMore Go.Proofs.Yteckkphbgfmolaa.Pure
set_option linter.unusedVariables false
set_option linter.unusedSimpArgs false

def cutN (n : Nd) : Nd := { n with f3 := n.f3.take (mn (n.f3.length : Int) 200).toNat }
theorem nodeC_one (A1 : Option Addr) (c1 : Nat) (A3 : Option Addr) (c3 : Nat) (n : Nd) : ∀ v ∈ (nodeC A1 c1 A3 c3 n).toList, v.oneCell' = true := by
  intro v hv
  unfold nodeC at hv
  simp only [List.mem_cons, List.not_mem_nil, or_false] at hv
  repeat (first | (rcases hv with rfl | hv; rfl) | (subst hv; rfl))
set_option maxRecDepth 100000 in
set_option maxHeartbeats 4000000 in
theorem cut_any (A1 : Option Addr) (c1 : Nat) (A3 : Option Addr) (c3 : Nat) (n : Nd) (w : World) (hr1 : Kd.C (Kd.int .i64) w A1 n.f1.length n.f1) (hc1 : n.f1.length ≤ c1) (hr3 : Kd.C (Kd.int .i64) w A3 n.f3.length n.f3) (hc3 : n.f3.length ≤ c3) :
    Calls Try.prog 11 #[.agg (nodeC A1 c1 A3 c3 n)] w fun e w' => e = .returned (.agg (nodeC A1 c1 A3 c3 (cutN n))) ∧ Below w.heap.size w w' := by
  have hlen : (Try.prog.info? 35).map (·.size) = some (nodeC A1 c1 A3 c3 (cutN n)).toList.length := by kernel_rfl
  have h0 := mn_le n.f3.length 200 (by decide)
  obtain ⟨ii, hii, _, hsz, _⟩ := info_parts info2
  obtain ⟨hsl, -, -⟩ := print_take_of (P := Try.prog) (Value.int .i64) 0 33 2 .i64 Try.underlying33 hii hsz A3 c3 n.f3 (mn (n.f3.length : Int) 200) h0.1 h0.2.1 hc3
  have hset : (nodeC A1 c1 A3 c3 n).setIfInBounds 31 (.slice A3 (n.f3.take (mn (n.f3.length : Int) 200).toNat).length c3) = nodeC A1 c1 A3 c3 (cutN n) := rfl
  have y31 : (w.alloc (.cells (nodeC A1 c1 A3 c3 n) 35)).cell? ⟨w.heap.size, 31, none⟩ = some (.slice A3 n.f3.length c3) := Blk.cell (Blk.new w 35 (nodeC A1 c1 A3 c3 n)) 31
  have hone := nodeC_one A1 c1 A3 c3 (cutN n)
  have hone2 : (nodeC A1 c1 A3 c3 (cutN n)).all (·.oneCell') = true := by
    have := all_oneCell_toArray hone
    rwa [Array.toArray_toList] at this
  have HLEN := Lib.hid hlen
  have HSET := Lib.hid hset
  have HONE := Lib.hid hone2
  have hsz2 : (nodeC A1 c1 A3 c3 (cutN n)).size = 34 := rfl
  have HSZ2 := Lib.hid hsz2
  have hlen2 : (Try.prog.info? 35).map (·.size) = some (nodeC A1 c1 A3 c3 (cutN n)).size := by kernel_rfl
  have HLEN2 := Lib.hid hlen2
  clear hlen hset hone hone2 hsz2 hlen2 y31 hr1 hr3 hc1 hc3 hii hsz
  obtain ⟨j, hj⟩ : ∃ j, j = mn (n.f3.length : Int) 200 := ⟨_, rfl⟩
  have hjm : (if 200 < (n.f3.length : Int) then 200 else (n.f3.length : Int)) = j := by rw [hj]; rfl
  rw [← hj] at hsl HSET
  clear hj h0
  generalize hlen9 : n.f3.length = len at hsl hjm
  generalize (n.f3.take j.toNat).length = len2 at hsl HSET
  have q31 : (nodeC A1 c1 A3 c3 n)[31]? = some (.slice A3 len c3) := by rw [← hlen9]; rfl
  clear hlen9
  have Q31 := Lib.hid q31
  clear q31
  generalize nodeC A1 c1 A3 c3 (cutN n) = cs2 at HLEN HSET HONE HSZ2 HLEN2 ⊢
  generalize nodeC A1 c1 A3 c3 n = cs at HSET Q31 ⊢
  go_enter Try.func11, Try.ntmps11
  go_upto_region 1 with fail
  obtain ⟨z, hz⟩ : ∃ z : Array Value, z = nodeC none 0 none 0 ⟨0, [], ⟨⟨0, 0⟩, ⟨0, 0⟩, ⟨0, 0, 0, 0⟩, ⟨⟨0, 0, 0⟩, ⟨0, 0, 0⟩, ⟨0, 0, 0⟩, ⟨0, 0, 0⟩⟩, 0, 0, 0, false, false, ⟨0, 0⟩, false, false⟩, [], 0, 0⟩ := ⟨_, rfl⟩
  have hzs : z.size = 34 := by rw [hz]; rfl
  have hz' := hz
  unfold nodeC at hz'
  simp only [List.length_nil] at hz'
  rw [← hz']
  clear hz' hz
  have hb1 : Below w.heap.size w ((w.alloc (.cells cs 35)).alloc (.cells z 35)) := ((Below.refl _ w).alloc (Nat.le_refl _) _).alloc (by simp) _
  have hk1 : Blk ((w.alloc (.cells cs 35)).alloc (.cells z 35)) w.heap.size 35 cs := Blk.alloc (Blk.new w _ _) _
  have hk2 : Blk ((w.alloc (.cells cs 35)).alloc (.cells z 35)) (w.heap.size + 1) 35 z := by
    have := Blk.new (w.alloc (.cells cs 35)) 35 z
    rwa [World.size_alloc] at this
  have HB1 := Lib.hid hb1
  have HK1 := Lib.hid hk1
  have HK2 := Lib.hid hk2
  clear hb1 hk1 hk2
  generalize ((w.alloc (.cells cs 35)).alloc (.cells z 35)) = W0 at HB1 HK1 HK2 ⊢
  have y31 : W0.cell? ⟨w.heap.size, 31, none⟩ = some (.slice A3 len c3) := (Blk.cell HK1.out 31).trans Q31.out
  have f31 := Blk.frozen HK1.out 31
  have l31 := Blk.lt HK1.out
  go_upto_region 2 with fail
  have HK3 := Lib.hid (Blk.set' HK1.out 31 (.slice A3 len2 c3) HSET.out.symm)
  have HK4 := Lib.hid (Blk.other HK2.out (p := ⟨w.heap.size, 31, none⟩) (by show w.heap.size + 1 ≠ w.heap.size; omega) (.slice A3 len2 c3))
  have HB4 := Lib.hid (HB1.out.setCell (p := ⟨w.heap.size, 31, none⟩) (Nat.le_refl _) (.slice A3 len2 c3))
  clear y31 f31 l31 hsl hjm
  generalize W0.setCell ⟨w.heap.size, 31, none⟩ (.slice A3 len2 c3) = W1 at HK3 HK4 HB4 ⊢
  have hrow := Blk.range HK3.out
  have hT := Blk.there HK4.out cs2.size (by rw [HSZ2.out, hzs]; exact Nat.le_refl _)
  have HZS := Lib.hid hzs
  clear hzs
  go_wp2_with (first | (refine wpList_load_mid rfl 35 _ rfl _ _ rfl _ _ hrow Try.underlying35 rfl HLEN.out ?_) | (refine wpList_store_mid rfl 35 _ _ rfl (w.heap.size + 1) 0 cs2 rfl rfl hT HLEN2.out HONE.out ?_; have hZ4 := HK4.out.setCells cs2.toList (by rw [Array.length_toList, HSZ2.out, HZS.out]); have hB5 := below_setCells' (b := w.heap.size + 1) (by omega) cs2.toList 0 HB4.out; generalize W1.setCells (w.heap.size + 1) 0 cs2.toList = W5 at hZ4 hB5 ⊢; have HZ4 := Lib.hid hZ4; clear hZ4 hT hrow))
  (try simp only [Exit.inBlock, Exit.then])
  refine bodyPost_ret (v := .agg cs2) ?_ rfl ⟨rfl, hB5⟩
  rw [show Value.agg cs2 = .agg cs2.toList.toArray by rw [Array.toArray_toList]]
  exact results_cell_mid Try.results11 _ _ (w.heap.size + 1) 0 cs2.toList _ rfl HZ4.out.range Try.underlying35 rfl HLEN.out
end Go.Proofs.Yteckkphbgfmolaa.K
