/- Layer 6: the head of the laws. -/
import Derived.Test.YtdmnaehgngpikaaLa9
import Derived.Test.YtdmnaehgngpikaaTrI
import Derived.Test.YtdmnaehgngpikaaK3
namespace Go.Proofs.Ytdmnaehgngpikaa.K
open Go.RowKit Go.Proofs.YtdmnaehgngpikaaW.PrintWords Go.Proofs.YtdmnaehgngpikaaW.PrintLast Go.Proofs.YtdmnaehgngpikaaW.PrintMore
set_option linter.unusedVariables false
set_option linter.unusedSimpArgs false
attribute [local go_sem] Oper.semAt_some
theorem same_l0 (l : List S35) (hl : l.length < 1000000000) : ∀ (d j k : Nat), j + d = l.length → d < k → purflingref06_Same.l0 k l l (j : Int) = some true
  | 0, j, k + 1, h, _ => by
    unfold purflingref06_Same.l0
    rw [if_neg (by omega)]
  | d + 1, j, k + 1, h, hk => by
    unfold purflingref06_Same.l0
    rw [if_pos (by omega), if_pos (by omega), if_pos (by omega), if_neg (by simp), wrap_up (by omega)]
    exact same_l0 l hl d (j + 1) k (by omega) (by omega)
theorem same_f (l : List S35) (hl : l.length < 1000000000) (k : Nat) (hk : l.length < k) : purflingref06_Same.f k l l = some true := by
  unfold purflingref06_Same.f
  rw [if_pos rfl]
  exact same_l0 l hl l.length 0 _ (by omega) (by omega)
theorem lanes_same {xs : List S35} {n : Nat} (hn : xs.length = n) (hl : n < 1000000000) (A0 : Option Addr) (c0 : Nat) (A1 : Option Addr) (c1 : Nat) (w : World) (hr0 : Kd.C k35 w A0 n xs) (hc0 : n ≤ c0) (hr1 : Kd.C k35 w A1 n xs) (hc1 : n ≤ c1) :
    Calls Try.prog 15 #[.slice A0 n c0, .slice A1 n c1] w fun e w' => e = .returned (.bool true) ∧ Below w.heap.size w w' := by
  subst hn
  exact (purflingref06_Same.calls (xs.length + 1) A0 c0 xs A1 c1 xs true w hr0 hc0 hr1 hc1 (same_f xs hl _ (by omega))).mono fun e w' ⟨he, hd⟩ => ⟨he, hd.below⟩
theorem wp_pick4 {P : Program} {c : Code} {Q : Exit → Act → World → Prop} {a : Act} {w : World} {c1 c2 c3 c4 : Array Value} {t1 t2 t3 t4 : Nat}
    (h : ∀ W, BlkIs W w.heap.size t1 c1 → BlkIs W (w.heap.size + 1) t2 c2 → BlkIs W (w.heap.size + 1 + 1) t3 c3 → BlkIs W (w.heap.size + 1 + 1 + 1) t4 c4 → Below w.heap.size w W → w.heap.size + 1 + 1 + 1 + 1 = W.heap.size → Code.wp P c Q a W) :
    Code.wp P c Q a ((((w.alloc (.cells c1 t1)).alloc (.cells c2 t2)).alloc (.cells c3 t3)).alloc (.cells c4 t4)) := by
  refine h _ ?_ ?_ ?_ ?_ ?_ (by simp)
  · exact BlkIs.alloc (BlkIs.alloc (BlkIs.alloc (World.alloc_heap_new w _) _) _) _
  · have := BlkIs.alloc (BlkIs.alloc (World.alloc_heap_new (w.alloc (.cells c1 t1)) (.cells c2 t2)) (.cells c3 t3)) (.cells c4 t4)
    simpa using this
  · have h3 : BlkIs (((w.alloc (.cells c1 t1)).alloc (.cells c2 t2)).alloc (.cells c3 t3)) ((w.alloc (.cells c1 t1)).alloc (.cells c2 t2)).heap.size t3 c3 := World.alloc_heap_new ((w.alloc (.cells c1 t1)).alloc (.cells c2 t2)) (.cells c3 t3)
    rw [World.size_alloc, World.size_alloc] at h3
    exact BlkIs.alloc h3 _
  · have h4 : BlkIs ((((w.alloc (.cells c1 t1)).alloc (.cells c2 t2)).alloc (.cells c3 t3)).alloc (.cells c4 t4)) (((w.alloc (.cells c1 t1)).alloc (.cells c2 t2)).alloc (.cells c3 t3)).heap.size t4 c4 := World.alloc_heap_new (((w.alloc (.cells c1 t1)).alloc (.cells c2 t2)).alloc (.cells c3 t3)) (.cells c4 t4)
    rwa [World.size_alloc, World.size_alloc, World.size_alloc] at h4
  · exact ((((Below.refl _ w).alloc (Nat.le_refl _) _).alloc (by simp) _).alloc (by simp; omega) _).alloc (by simp; omega) _
theorem wpList_build {P : Program} {ops : Array Oper} {rest : List Oper} {o : Oper} {a : Act} {w w1 : World} {Q : Exit → Act → World → Prop} (hgd : o.guard = none) (t n : Nat) (p : Array (Nat × Operand)) (ho : o.op = .buildSlice t n p) (v : Value) (q : Array (Nat × Value)) (hq : (p.map fun (i, x) => (i, a.eval x)) = q)
    (hrun : (Instr.buildSlice t n q).run P w = .ok v w1) (h : wpList P ops Q rest (a.put o.dst v) w1) : wpList P ops Q (o :: rest) a w := by
  subst hq
  refine wpList_plain hgd fun K hK => ?_
  unfold Oper.wp
  simp only [execOp, ho]
  have e : ((do let v ← Instr.buildSlice t n (p.map fun x => (x.1, a.eval x.2)); pure (Next.value v) : Sem Next)).run P w = .ok (.value v) w1 := by
    rw [Sem.run_bind, show (p.map fun x => (x.1, a.eval x.2)) = (p.map fun (i, x) => (i, a.eval x)) from rfl, hrun]; rfl
  show Oper.upon P o a K Q _
  first
    | rw [e]
    | erw [e]
  exact hK _ _ h
theorem lit6_build (W : World) (c1 c2 c3 : Value) : (Instr.buildSlice 22 6 #[(0, .agg (nv0 2 c1).toArray), (1, .agg (nv0 8 c2).toArray), (2, .agg (nv0 9 (.slice none 0 0)).toArray), (3, .agg (nv0 6 c3).toArray), (4, .agg (nv0 9 (.slice none 0 0)).toArray), (5, .agg (nv0 9 (.slice none 0 0)).toArray)]).run Try.prog W =
    .ok (.slice (some ⟨W.heap.size, 0, none⟩) 6 6) (W.alloc (.cells ([nv0 2 c1, nv0 8 c2, nv0 9 (.slice none 0 0), nv0 6 c3, nv0 9 (.slice none 0 0), nv0 9 (.slice none 0 0)].flatten).toArray 48)) := by kernel_rfl
def purflinglaw06_shown.f : Option Bool := some true
def lit6 : List Nd := [nd0 2 [1, 2, 3], nd0 8 [4], nd0 9 [], nd0 6 [5], nd0 9 [], nd0 9 []]
theorem lit6_rows : lanes_Rows.f lit6 0 = some ([⟨5, 3⟩, ⟨2, -1⟩, ⟨4, 1⟩], 0) := by kernel_rfl
theorem lit6_cols : lanes_Cols.f lit6 0 2 = some ([⟨-1, -1⟩, ⟨-1, -1⟩], 0) := by kernel_rfl
theorem lit6_rows1 : lanes_Rows.f lit6 1 = some ([], 2) := by kernel_rfl
set_option maxRecDepth 100000 in
set_option maxHeartbeats 4000000 in
theorem purflinglaw06_shown.calls (r : Bool) (w : World) (h : purflinglaw06_shown.f = some r) :
    Calls Try.prog 10 #[] w fun e w' => e = .returned (.bool r) ∧ Below w.heap.size w w' := by
  obtain rfl : true = r := Option.some.inj h
  clear h
  go_enter Try.func10, Try.ntmps10
  go_upto_region 2 with (refine wpList_build rfl _ _ _ rfl _ #[(0, .agg (nv0 2 (.slice (some ⟨w.heap.size, 0, none⟩) 3 3)).toArray), (1, .agg (nv0 8 (.slice (some ⟨w.heap.size + 1, 0, none⟩) 1 1)).toArray), (2, .agg (nv0 9 (.slice none 0 0)).toArray), (3, .agg (nv0 6 (.slice (some ⟨w.heap.size + 1 + 1, 0, none⟩) 1 1)).toArray), (4, .agg (nv0 9 (.slice none 0 0)).toArray), (5, .agg (nv0 9 (.slice none 0 0)).toArray)] (by kernel_rfl) (lit6_build _ (.slice (some ⟨w.heap.size, 0, none⟩) 3 3) (.slice (some ⟨w.heap.size + 1, 0, none⟩) 1 1) (.slice (some ⟨w.heap.size + 1 + 1, 0, none⟩) 1 1)) ?_)
  refine wp_pick4 (fun W b1 b2 b3 b4 hB hsz => ?_)
  have hC1 := c_ints b1 (xs := [1, 2, 3]) rfl (by decide)
  have hC2 := c_ints b2 (xs := [4]) rfl (by decide)
  have hC3 := c_ints b3 (xs := [5]) rfl (by decide)
  have hC : Kd.C k48 W (some ⟨w.heap.size + 1 + 1 + 1, 0, none⟩) 6 lit6 := c_nodes b4 lit6 [nv0 2 (.slice (some ⟨w.heap.size, 0, none⟩) 3 3), nv0 8 (.slice (some ⟨w.heap.size + 1, 0, none⟩) 1 1), nv0 9 (.slice none 0 0), nv0 6 (.slice (some ⟨w.heap.size + 1 + 1, 0, none⟩) 1 1), nv0 9 (.slice none 0 0), nv0 9 (.slice none 0 0)] rfl rfl (by decide) (fun i x c hx hc => by
    match i, hx, hc with
    | 0, hx, hc => cases hx; cases hc; exact nv0_K (Nat.le_refl _) hC1
    | 1, hx, hc => cases hx; cases hc; exact nv0_K (Nat.le_refl _) hC2
    | 2, hx, hc => cases hx; cases hc; exact nv0_K0 _ _
    | 3, hx, hc => cases hx; cases hc; exact nv0_K (Nat.le_refl _) hC3
    | 4, hx, hc => cases hx; cases hc; exact nv0_K0 _ _
    | 5, hx, hc => cases hx; cases hc; exact nv0_K0 _ _
    | i + 6, hx, hc => simp [lit6] at hx)
  clear hC1 hC2 hC3 b1 b2 b3 b4
  have HC := Lib.hid hC
  have HB := Lib.hid hB
  have HSZ := Lib.hid hsz
  have HO : Hid (∀ W, Kd.C k48 W (some ⟨w.heap.size + 1 + 1 + 1, 0, none⟩) 6 lit6 → Calls Try.prog 16 #[.slice (some ⟨w.heap.size + 1 + 1 + 1, 0, none⟩) 6 6, .int .i64 0] W fun e w' => ∃ v0_ : Value, e = .returned (.tuple #[v0_, .int .i64 0]) ∧ Kd.R k35 35 w' W.heap.size (fun _ => True) v0_ [⟨5, 3⟩, ⟨2, -1⟩, ⟨4, 1⟩] ∧ Below W.heap.size W w') := Lib.hid (fun W hr => lanes_Rows.calls (some ⟨w.heap.size + 1 + 1 + 1, 0, none⟩) 6 lit6 0 _ 0 W hr (Nat.le_refl _) lit6_rows)
  have HD : Hid (∀ W, Kd.C k48 W (some ⟨w.heap.size + 1 + 1 + 1, 0, none⟩) 6 lit6 → Calls Try.prog 12 #[.slice (some ⟨w.heap.size + 1 + 1 + 1, 0, none⟩) 6 6, .int .i64 0, .int .i64 2] W fun e w' => ∃ v0_ : Value, e = .returned (.tuple #[v0_, .int .i64 0]) ∧ Kd.R k35 35 w' W.heap.size (fun _ => True) v0_ [⟨-1, -1⟩, ⟨-1, -1⟩] ∧ Below W.heap.size W w') := Lib.hid (fun W hr => lanes_Cols.calls (some ⟨w.heap.size + 1 + 1 + 1, 0, none⟩) 6 lit6 0 2 _ 0 W hr (Nat.le_refl _) lit6_cols)
  have HN : Hid (∀ W, Kd.C k48 W (some ⟨w.heap.size + 1 + 1 + 1, 0, none⟩) 6 lit6 → Calls Try.prog 16 #[.slice (some ⟨w.heap.size + 1 + 1 + 1, 0, none⟩) 6 6, .int .i64 1] W fun e w' => ∃ v0_ : Value, e = .returned (.tuple #[v0_, .int .i64 2]) ∧ Kd.R k35 35 w' W.heap.size (fun _ => True) v0_ [] ∧ Below W.heap.size W w') := Lib.hid (fun W hr => lanes_Rows.calls (some ⟨w.heap.size + 1 + 1 + 1, 0, none⟩) 6 lit6 1 _ 2 W hr (Nat.le_refl _) lit6_rows1)
  clear hC hB hsz
  generalize w.heap.size + 1 + 1 + 1 = B at HC HO HD HN ⊢
  go_upto_region 3 with (go_at_call 16; refine (HO.out _ HC.out).mono ?_; rintro e w1 ⟨v1, rfl, hr1, hb1⟩; have HB1 := Lib.hid (below_then HB.out HB.out.size hb1); have HC1 := Lib.hid (Kd.C_below HC.out hb1); have HR1 := Lib.hid hr1; clear hr1 hb1)
  obtain ⟨A1, c1, rfl, hl1, hC1⟩ := Kd.R_reads HR1.out
  have HC1r := Lib.hid hC1
  have HL1 := Lib.hid hl1
  clear hC1 hl1 HR1 HB HC HO
  go_upto_region 4 with (go_at_call 12; refine (HD.out _ HC1.out).mono ?_; rintro e w2 ⟨v2, rfl, hr2, hb2⟩; have HB2 := Lib.hid (below_then HB1.out HB1.out.size hb2); have HC2 := Lib.hid (Kd.C_below HC1.out hb2); have HC2r := Lib.hid (Kd.C_below HC1r.out hb2); have HR2 := Lib.hid hr2; clear hr2 hb2)
  obtain ⟨A2, c2, rfl⟩ := Kd.R_slice HR2.out
  clear HR2 HB1 HC1 HC1r HD
  go_upto_region 5 with (go_at_call 16; refine (HN.out _ HC2.out).mono ?_; rintro e w3 ⟨v3, rfl, -, hb3⟩; have HB3 := Lib.hid (below_then HB2.out HB2.out.size hb3); have HC3r := Lib.hid (Kd.C_below HC2r.out hb3); clear hb3)
  clear HB2 HC2 HC2r HN
  have HI : Hid (∀ W, Kd.C k35 W A1 3 [⟨5, 3⟩, ⟨2, -1⟩, ⟨4, 1⟩] → Calls Try.prog 15 #[.slice A1 3 c1, .slice (some ⟨W.heap.size, 0, none⟩) 3 3] (W.alloc (.cells #[.int .i64 5, .int .i64 3, .int .i64 2, .int .i64 (-1), .int .i64 4, .int .i64 1] 35)) fun e w' => e = .returned (.bool true) ∧ Below W.heap.size W w') := Lib.hid (fun W hr => by
    have hb : Kd.C k35 (W.alloc (.cells #[.int .i64 5, .int .i64 3, .int .i64 2, .int .i64 (-1), .int .i64 4, .int .i64 1] 35)) (some ⟨W.heap.size, 0, none⟩) 3 [⟨5, 3⟩, ⟨2, -1⟩, ⟨4, 1⟩] := outIs_C (xs := [⟨5, 3⟩, ⟨2, -1⟩, ⟨4, 1⟩]) (World.alloc_heap_new W _) (by decide)
    exact (lanes_same (xs := [⟨5, 3⟩, ⟨2, -1⟩, ⟨4, 1⟩]) rfl (by decide) A1 c1 _ 3 _ (Kd.C_alloc hr _) HL1.out hb (Nat.le_refl _)).mono (fun e w' h => ⟨h.1, ((Below.refl W.heap.size W).alloc (Nat.le_refl _) _).trans (h.2.mono (by simp))⟩))
  go_wp2_with ((try (refine gate_guard (by rfl) ?_; dsimp only)); go_at_call 15; (with_reducible refine (HI.out _ HC3r.out).mono ?_); rintro e w4 ⟨rfl, hb⟩; have HB4 := Lib.hid (below_then HB3.out HB3.out.size hb); clear hb HB3 HC3r HI)
  go_ret
  exact ⟨rfl, HB4.out⟩
end Go.Proofs.Ytdmnaehgngpikaa.K
