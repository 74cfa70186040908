/- Layer 8: LinesMany. -/
import Derived.Test.YteckkphbgfmolaaLnP
import Derived.Test.YteckkphbgfmolaaOpens
namespace Go.Proofs.Yteckkphbgfmolaa.K
open Go.RowKit Go.Proofs.YteckkphbgfmolaaW.PrintWords Go.Proofs.YteckkphbgfmolaaW.PrintLast Go.Proofs.YteckkphbgfmolaaW.PrintMore Go.Proofs.Yteckkphbgfmolaa.Pure
set_option linter.unusedVariables false
set_option linter.unusedSimpArgs false
def nodeM (xs : List Int) : Nd := { nodeZ with f0 := 1, f3 := xs, f4 := 1 }
theorem node_there (W : World) (A3 : Option Addr) (c3 : Nat) (n : Nd) : World.there (W.alloc (.cells (nodeC none 0 none 0 nodeZ) 35)) W.heap.size 0 (nodeC none 0 A3 c3 n).size :=
  Blk.there (Blk.new W 35 (nodeC none 0 none 0 nodeZ)) _ (by rw [(nodeK none 0 A3 c3 n).size, (nodeK none 0 none 0 nodeZ).size]; exact Nat.le_refl _)
theorem all_zero (m : Nat) : (List.replicate m (0 : Int)).all lengthB = true := by
  rw [List.all_eq_true]; intro x hx
  obtain rfl := (List.mem_replicate.1 hx).2
  decide
theorem many_right (m : Nat) : rightB (nodeM (List.replicate m 0)) = decide (m ≤ 10000) := by
  unfold rightB nodeM
  dsimp only
  rw [all_zero, List.length_replicate]
  by_cases h : m ≤ 10000
  · rw [decide_eq_true h, decide_eq_true (show (m : Int) ≤ 10000 by omega)]; rfl
  · rw [decide_eq_false h, decide_eq_false (show ¬ (m : Int) ≤ 10000 by omega)]; simp
theorem sum_zero : ∀ (m : Nat), (List.replicate m (0 : Int)).sum = 0
  | 0 => rfl
  | m + 1 => by rw [List.replicate_succ, List.sum_cons, sum_zero m]; rfl
theorem many_wide (m : Nat) (hm : 1 ≤ m) : widesP (nodeM (List.replicate m 0)) 0 (nodeM (List.replicate m 0)).f3.length = if m ≤ 10000 then ((m : Int) - 1, 0) else (0, 90) := by
  by_cases h : m ≤ 10000
  · rw [if_pos h, widesP_of (by rw [many_right]; exact decide_eq_true h) (Int.le_refl _) (by omega) (Int.le_refl _)]
    congr 1
    unfold wideP
    rw [Int.toNat_natCast, List.take_length]
    show ((List.replicate m (0 : Int)).drop 0).sum + 1 * (((List.replicate m (0 : Int)).length - 0 - 1 : Nat) : Int) = _
    rw [List.drop_zero, sum_zero, List.length_replicate]; omega
  · rw [if_neg h]
    unfold widesP
    rw [many_right, decide_eq_false h]; rfl
theorem many_out (a0 : Int) (h : a0 < 9990 ∨ 10010 < a0) (w : World) : Calls Try.prog 9 #[.int .i64 a0] w fun e w' => e = .returned (.bool true) ∧ Below w.heap.size w w' := by
  by_cases h1 : a0 < 9990
  · have hd1 : decide (a0 < 9990) = true := decide_eq_true h1
    clear h
    go_enter Try.func9, Try.ntmps9
    go_wp2_with (go_at_call 10; refine (shown_any _).mono ?_; rintro e w1 ⟨rfl, hb⟩)
    go_ret
    exact ⟨rfl, hb⟩
  · have hd1 : decide (a0 < 9990) = false := decide_eq_false h1
    have hd2 : decide (10010 < a0) = true := decide_eq_true (by omega)
    clear h
    go_enter Try.func9, Try.ntmps9
    go_wp2_with (go_at_call 10; refine (shown_any _).mono ?_; rintro e w1 ⟨rfl, hb⟩)
    go_ret
    exact ⟨rfl, hb⟩
set_option maxRecDepth 100000 in
set_option maxHeartbeats 4000000 in
theorem many_big (a0 : Int) (h0 : 10000 < a0) (h2 : a0 ≤ 10010) (w : World) : Calls Try.prog 9 #[.int .i64 a0] w fun e w' => e = .returned (.bool true) ∧ Below w.heap.size w w' := by
  obtain ⟨m, rfl⟩ := Int.eq_ofNat_of_zero_le (show 0 ≤ a0 by omega)
  obtain ⟨xs, hxs⟩ : ∃ xs, xs = List.replicate m (0 : Int) := ⟨_, rfl⟩
  have hmr := many_right m
  have hmw := many_wide m (by omega)
  rw [← hxs] at hmr hmw
  rw [decide_eq_false (by omega)] at hmr
  rw [if_neg (by omega)] at hmw
  have HRT := Lib.hid (fun (V : World) (A : Option Addr) (c : Nat) (hr : Kd.C (Kd.int .i64) V A xs.length xs) (hc : xs.length ≤ c) => hmr ▸ right_any none 0 A c (nodeM xs) V (Kd.C_nil _ _) (Nat.le_refl _) hr hc)
  have HMS := Lib.hid (fun (V : World) (A : Option Addr) (c : Nat) (hr : Kd.C (Kd.int .i64) V A xs.length xs) (hc : xs.length ≤ c) => most_any none 0 A c (nodeM xs) V (Kd.C_nil _ _) (Nat.le_refl _) hr hc)
  rw [hmw] at HMS
  dsimp only at HMS
  have HNK := Lib.hid (fun (A : Option Addr) (c : Nat) => nodeK none 0 A c (nodeM xs))
  have HTH := Lib.hid (fun (W : World) (A : Option Addr) (c : Nat) => node_there W A c (nodeM xs))
  have hd1 : decide ((m : Int) < 9990) = false := decide_eq_false (by omega)
  have hd2 : decide (10010 < (m : Int)) = false := decide_eq_false (by omega)
  have hd3 : decide (10000 < (m : Int)) = true := decide_eq_true (by omega)
  have hw1 : IntKind.i64.wrap ((m : Int) - 1) = (m : Int) - 1 := IntWalk.i64_in _ (by omega)
  have HXS := Lib.hid hxs
  have HM := Lib.hid (show m ≤ 20000 by omega)
  clear hmr hmw hxs h0 h2
  go_enter Try.func9, Try.ntmps9
  go_upto_region 4 with (go_at_call 10; refine (shown_any _).mono ?_; rintro e w1 ⟨rfl, hb⟩; have HB := Lib.hid hb; clear hb)
  go_upto_region 5 with (first | (refine wpList_store_mid rfl 35 _ _ rfl (w4.heap.size) 0 (nodeC none 0 A c (nodeM xs)) rfl rfl hT HK.out.len2 HK.out.one ?_) | ((with_reducible refine gate_dst (N := 16) rfl ?_); go_loud (refine Kd.R_make (Kd.int .i64) (w0 := w) w.heap.size 2 rfl (N := 16) rfl 33 _ _ rfl (m : Int) rfl rfl Try.underlying33 (.int .i64 0) 8 info2 rfl (by decide) (by omega) 0 (ok := fun _ => True) (okp := fun _ => True) rfl (fun _ hk => hk) trivial (by omega) (by have := HM.out; simp only [Int.toNat_natCast]; omega) HB.out HB.out.size ?_; intro v1 w4 ho hb hg hnew; rw [Int.toNat_natCast, ← HXS.out] at ho; obtain ⟨A, c, rfl⟩ := Kd.R_slice ho; have hrd := (Kd.R_reads' ho).2; have HRD := Lib.hid hrd; have n_HB := Lib.hid hb; clear HB hrd hb hg hnew ho; have hT := HTH.out w4 A c; have HK := Lib.hid (HNK.out A c))))
  have hcv : (#[.int .i64 1, .slice none 0 0, .int .i64 0, .int .i64 0, .int .i64 0, .int .i64 0, .int .i64 0, .int .i64 0, .int .i64 0, .int .i64 0, .int .i64 0, .int .i64 0, .int .u32 0, .int .i64 0, .int .i64 0, .int .u32 0, .int .i64 0, .int .i64 0, .int .u32 0, .int .i64 0, .int .i64 0, .int .u32 0, .int .i64 0, .int .i64 0, .int .i64 0, .bool false, .bool false, .int .i64 0, .int .i64 0, .bool false, .bool false, .slice A xs.length c, .int .i64 1, .int .i64 0] : Array Value) = nodeC none 0 A c (nodeM xs) := rfl
  have hzv : (#[.int .i64 0, .slice none 0 0, .int .i64 0, .int .i64 0, .int .i64 0, .int .i64 0, .int .i64 0, .int .i64 0, .int .i64 0, .int .i64 0, .int .i64 0, .int .i64 0, .int .u32 0, .int .i64 0, .int .i64 0, .int .u32 0, .int .i64 0, .int .i64 0, .int .u32 0, .int .i64 0, .int .i64 0, .int .u32 0, .int .i64 0, .int .i64 0, .int .i64 0, .bool false, .bool false, .int .i64 0, .int .i64 0, .bool false, .bool false, .slice none 0 0, .int .i64 0, .int .i64 0] : Array Value) = nodeC none 0 none 0 nodeZ := rfl
  rw [hcv, hzv]
  clear hcv hzv
  have HRT2 := Lib.hid (fun (V : World) (hV : Below w4.heap.size w4 V) => HRT.out V A c (Kd.C_below HRD.out.2 hV) HRD.out.1)
  have HMS2 := Lib.hid (fun (V : World) (hV : Below w4.heap.size w4 V) => HMS.out V A c (Kd.C_below HRD.out.2 hV) HRD.out.1)
  have HB4 := Lib.hid (below_setCells' (b := w4.heap.size) (Nat.le_refl _) (nodeC none 0 A c (nodeM xs)).toList 0 ((Below.refl w4.heap.size w4).alloc (Nat.le_refl _) (.cells (nodeC none 0 none 0 nodeZ) 35)))
  have HBK : Hid (Blk _ w4.heap.size 35 (nodeC none 0 A c (nodeM xs))) := Lib.hid (Blk.setCells (Blk.new w4 35 (nodeC none 0 none 0 nodeZ)) (nodeC none 0 A c (nodeM xs)).toList (by rw [Array.length_toList, HK.out.size, (nodeK none 0 none 0 nodeZ).size]))
  clear HRT HMS HRD hT HNK HTH HXS
  generalize nodeC none 0 A c (nodeM xs) = cs at *
  generalize World.setCells (w4.alloc (.cells (nodeC none 0 none 0 nodeZ) 35)) w4.heap.size 0 cs.toList = W5 at HBK HB4 ⊢
  have hrow := Blk.range HBK.out
  go_wp2_with (first | ((try (refine gate_guard (by rfl) ?_; dsimp only)); refine wpList_load_mid rfl 35 _ rfl _ _ rfl _ _ hrow Try.underlying35 rfl HK.out.len ?_) | ((try (refine gate_guard (by rfl) ?_; dsimp only)); go_at_call 21; go_loud (refine (HMS2.out _ HB4.out).mono ?_; rintro e w6 ⟨rfl, hb⟩; have n_K := Lib.hid (Blk.below HBK.out hb (Blk.lt HBK.out)); have n_B := Lib.hid (HB4.out.trans (hb.mono HB4.out.size)); clear hb HBK HB4; have HBK := n_K; have HB4 := n_B; clear n_K n_B; replace hrow := Blk.range HBK.out)) | ((try (refine gate_guard (by rfl) ?_; dsimp only)); go_at_call 15; go_loud (refine (HRT2.out _ HB4.out).mono ?_; rintro e w7 ⟨rfl, hb⟩; have n_B := Lib.hid (HB4.out.trans (hb.mono HB4.out.size)); clear hb HBK HB4 hrow; have HB4 := n_B; clear n_B)))
  go_ret
  exact ⟨by simp, n_HB.out.trans (HB4.out.mono n_HB.out.size)⟩
set_option maxRecDepth 100000 in
set_option maxHeartbeats 4000000 in
theorem many_mid (a0 : Int) (h0 : 9990 ≤ a0) (h2 : a0 ≤ 10000) (w : World) : Calls Try.prog 9 #[.int .i64 a0] w fun e w' => e = .returned (.bool true) ∧ Below w.heap.size w w' := by
  obtain ⟨m, rfl⟩ := Int.eq_ofNat_of_zero_le (show 0 ≤ a0 by omega)
  obtain ⟨xs, hxs⟩ : ∃ xs, xs = List.replicate m (0 : Int) := ⟨_, rfl⟩
  have hmr := many_right m
  have hmw := many_wide m (by omega)
  rw [← hxs] at hmr hmw
  rw [decide_eq_true (by omega)] at hmr
  rw [if_pos (by omega)] at hmw
  have HRT := Lib.hid (fun (V : World) (A : Option Addr) (c : Nat) (hr : Kd.C (Kd.int .i64) V A xs.length xs) (hc : xs.length ≤ c) => hmr ▸ right_any none 0 A c (nodeM xs) V (Kd.C_nil _ _) (Nat.le_refl _) hr hc)
  have HMS := Lib.hid (fun (V : World) (A : Option Addr) (c : Nat) (hr : Kd.C (Kd.int .i64) V A xs.length xs) (hc : xs.length ≤ c) => most_any none 0 A c (nodeM xs) V (Kd.C_nil _ _) (Nat.le_refl _) hr hc)
  rw [hmw] at HMS
  dsimp only at HMS
  have HNK := Lib.hid (fun (A : Option Addr) (c : Nat) => nodeK none 0 A c (nodeM xs))
  have HTH := Lib.hid (fun (W : World) (A : Option Addr) (c : Nat) => node_there W A c (nodeM xs))
  have hd1 : decide ((m : Int) < 9990) = false := decide_eq_false (by omega)
  have hd2 : decide (10010 < (m : Int)) = false := decide_eq_false (by omega)
  have hd3 : decide (10000 < (m : Int)) = false := decide_eq_false (by omega)
  have hw1 : IntKind.i64.wrap ((m : Int) - 1) = (m : Int) - 1 := IntWalk.i64_in _ (by omega)
  have HXS := Lib.hid hxs
  have HM := Lib.hid (show m ≤ 20000 by omega)
  clear hmr hmw hxs h0 h2
  go_enter Try.func9, Try.ntmps9
  go_upto_region 4 with (go_at_call 10; refine (shown_any _).mono ?_; rintro e w1 ⟨rfl, hb⟩; have HB := Lib.hid hb; clear hb)
  go_upto_region 5 with (first | (refine wpList_store_mid rfl 35 _ _ rfl (w4.heap.size) 0 (nodeC none 0 A c (nodeM xs)) rfl rfl hT HK.out.len2 HK.out.one ?_) | ((with_reducible refine gate_dst (N := 16) rfl ?_); go_loud (refine Kd.R_make (Kd.int .i64) (w0 := w) w.heap.size 2 rfl (N := 16) rfl 33 _ _ rfl (m : Int) rfl rfl Try.underlying33 (.int .i64 0) 8 info2 rfl (by decide) (by omega) 0 (ok := fun _ => True) (okp := fun _ => True) rfl (fun _ hk => hk) trivial (by omega) (by have := HM.out; simp only [Int.toNat_natCast]; omega) HB.out HB.out.size ?_; intro v1 w4 ho hb hg hnew; rw [Int.toNat_natCast, ← HXS.out] at ho; obtain ⟨A, c, rfl⟩ := Kd.R_slice ho; have hrd := (Kd.R_reads' ho).2; have HRD := Lib.hid hrd; have n_HB := Lib.hid hb; clear HB hrd hb hg hnew ho; have hT := HTH.out w4 A c; have HK := Lib.hid (HNK.out A c))))
  have hcv : (#[.int .i64 1, .slice none 0 0, .int .i64 0, .int .i64 0, .int .i64 0, .int .i64 0, .int .i64 0, .int .i64 0, .int .i64 0, .int .i64 0, .int .i64 0, .int .i64 0, .int .u32 0, .int .i64 0, .int .i64 0, .int .u32 0, .int .i64 0, .int .i64 0, .int .u32 0, .int .i64 0, .int .i64 0, .int .u32 0, .int .i64 0, .int .i64 0, .int .i64 0, .bool false, .bool false, .int .i64 0, .int .i64 0, .bool false, .bool false, .slice A xs.length c, .int .i64 1, .int .i64 0] : Array Value) = nodeC none 0 A c (nodeM xs) := rfl
  have hzv : (#[.int .i64 0, .slice none 0 0, .int .i64 0, .int .i64 0, .int .i64 0, .int .i64 0, .int .i64 0, .int .i64 0, .int .i64 0, .int .i64 0, .int .i64 0, .int .i64 0, .int .u32 0, .int .i64 0, .int .i64 0, .int .u32 0, .int .i64 0, .int .i64 0, .int .u32 0, .int .i64 0, .int .i64 0, .int .u32 0, .int .i64 0, .int .i64 0, .int .i64 0, .bool false, .bool false, .int .i64 0, .int .i64 0, .bool false, .bool false, .slice none 0 0, .int .i64 0, .int .i64 0] : Array Value) = nodeC none 0 none 0 nodeZ := rfl
  rw [hcv, hzv]
  clear hcv hzv
  have HRT2 := Lib.hid (fun (V : World) (hV : Below w4.heap.size w4 V) => HRT.out V A c (Kd.C_below HRD.out.2 hV) HRD.out.1)
  have HMS2 := Lib.hid (fun (V : World) (hV : Below w4.heap.size w4 V) => HMS.out V A c (Kd.C_below HRD.out.2 hV) HRD.out.1)
  have HB4 := Lib.hid (below_setCells' (b := w4.heap.size) (Nat.le_refl _) (nodeC none 0 A c (nodeM xs)).toList 0 ((Below.refl w4.heap.size w4).alloc (Nat.le_refl _) (.cells (nodeC none 0 none 0 nodeZ) 35)))
  have HBK : Hid (Blk _ w4.heap.size 35 (nodeC none 0 A c (nodeM xs))) := Lib.hid (Blk.setCells (Blk.new w4 35 (nodeC none 0 none 0 nodeZ)) (nodeC none 0 A c (nodeM xs)).toList (by rw [Array.length_toList, HK.out.size, (nodeK none 0 none 0 nodeZ).size]))
  clear HRT HMS HRD hT HNK HTH HXS
  generalize nodeC none 0 A c (nodeM xs) = cs at *
  generalize World.setCells (w4.alloc (.cells (nodeC none 0 none 0 nodeZ) 35)) w4.heap.size 0 cs.toList = W5 at HBK HB4 ⊢
  have hrow := Blk.range HBK.out
  go_wp2_with (first | ((try (refine gate_guard (by rfl) ?_; dsimp only)); refine wpList_load_mid rfl 35 _ rfl _ _ rfl _ _ hrow Try.underlying35 rfl HK.out.len ?_) | ((try (refine gate_guard (by rfl) ?_; dsimp only)); go_at_call 21; go_loud (refine (HMS2.out _ HB4.out).mono ?_; rintro e w6 ⟨rfl, hb⟩; have n_K := Lib.hid (Blk.below HBK.out hb (Blk.lt HBK.out)); have n_B := Lib.hid (HB4.out.trans (hb.mono HB4.out.size)); clear hb HBK HB4; have HBK := n_K; have HB4 := n_B; clear n_K n_B; replace hrow := Blk.range HBK.out)) | ((try (refine gate_guard (by rfl) ?_; dsimp only)); go_at_call 15; go_loud (refine (HRT2.out _ HB4.out).mono ?_; rintro e w7 ⟨rfl, hb⟩; have n_B := Lib.hid (HB4.out.trans (hb.mono HB4.out.size)); clear hb HBK HB4 hrow; have HB4 := n_B; clear n_B)))
  go_ret
  exact ⟨by simp, n_HB.out.trans (HB4.out.mono n_HB.out.size)⟩
theorem many_any (a0 : Int) (w : World) : Calls Try.prog 9 #[.int .i64 a0] w fun e w' => e = .returned (.bool true) ∧ Below w.heap.size w w' := by
  by_cases h : a0 < 9990 ∨ 10010 < a0
  · exact many_out a0 h w
  · by_cases h2 : 10000 < a0
    · exact many_big a0 h2 (by omega) w
    · exact many_mid a0 (by omega) (by omega) w
def purflinglaw08_LinesMany.f (a0 : Int) : Option Bool := some true
theorem purflinglaw08_LinesMany.calls (a0 : Int) (r : Bool) (w : World) (h : purflinglaw08_LinesMany.f a0 = some r) :
    Calls Try.prog 9 #[.int .i64 a0] w fun e w' => e = .returned (.bool r) ∧ Below w.heap.size w w' := by
  cases h
  exact many_any a0 w
end Go.Proofs.Yteckkphbgfmolaa.K
namespace Go.Proofs.Yteckkphbgfmolaa.Pure
open Go.RowKit Go.Proofs.Yteckkphbgfmolaa.K
set_option linter.unusedVariables false
theorem linesMany_pure (a0 : Int) (h : (Lit.int .i64 a0).wf = true) : purflinglaw08_LinesMany.f a0 = some true := rfl
end Go.Proofs.Yteckkphbgfmolaa.Pure
