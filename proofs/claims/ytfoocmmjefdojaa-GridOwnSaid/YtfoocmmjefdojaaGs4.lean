/- Layer 7: Slots, of right sizes. -/
import Derived.Test.YtfoocmmjefdojaaGs3
namespace Go.Proofs.Ytfoocmmjefdojaa.K
open Go.RowKit Go.Proofs.YtfoocmmjefdojaaW.PrintWords Go.Proofs.YtfoocmmjefdojaaW.PrintLast Go.Proofs.YtfoocmmjefdojaaW.PrintMore
set_option linter.unusedVariables false
set_option linter.unusedSimpArgs false
attribute [local go_sem] Oper.semAt_some

theorem ResI.endsB {w W : World} (h : ResI w W) (v : Value) (e : Int) : BlkIs ((W.setCell ⟨w.heap.size, 0, none⟩ v).setCell ⟨w.heap.size + 1, 0, none⟩ (.int .i64 e)) w.heap.size 36 #[v] ∧
    BlkIs ((W.setCell ⟨w.heap.size, 0, none⟩ v).setCell ⟨w.heap.size + 1, 0, none⟩ (.int .i64 e)) (w.heap.size + 1) 27 #[.int .i64 e] ∧ Below w.heap.size w ((W.setCell ⟨w.heap.size, 0, none⟩ v).setCell ⟨w.heap.size + 1, 0, none⟩ (.int .i64 e)) :=
  ⟨BlkIs.other (BlkIs.set h.r1 0 v) (p := ⟨w.heap.size + 1, 0, none⟩) (by simp) _, BlkIs.set (BlkIs.other h.r2 (p := ⟨w.heap.size, 0, none⟩) (by simp) v) 0 _,
    (h.b.setCell (p := ⟨w.heap.size, 0, none⟩) (Nat.le_refl _) _).setCell (p := ⟨w.heap.size + 1, 0, none⟩) (by simp) _⟩

/-- the rows while slots are given away: their blocks stand below T -/
structure FillI (w W : World) (N T : Nat) (v : Value) (m : List (List Int)) : Prop where
  res : ResI w W
  bx : BlkIs W N 36 #[v]
  hN : w.heap.size + 2 ≤ N ∧ N < T ∧ T ≤ W.heap.size
  own : Kd.S dRow 23 W w.heap.size (fun k => (w.heap.size + 2 ≤ k ∧ k ≠ N) ∧ k < T) v m
theorem FillI.of {w W : World} {N : Nat} {v : Value} {m : List (List Int)} (h : RowI w W N v m) : FillI w W N W.heap.size v m :=
  ⟨h.res, h.bx, ⟨h.hN, BlkIs.lt h.bx, Nat.le_refl _⟩, Kd.S_mono (Kd.S_bound h.own) (fun k hk => ⟨hk.1, hk.2.2.1⟩)⟩
theorem FillI.grown {w W V : World} {N T : Nat} {v : Value} {m : List (List Int)} {row : Option Nat} (h : FillI w W N T v m) (hg : W.grownBy V row) (hr : ∀ k, row = some k → T ≤ k) : FillI w V N T v m :=
  ⟨h.res.grown hg (fun k e => by have := hr k e; have := h.hN; omega), (hg.block N (BlkIs.lt h.bx) (fun e => by have := hr _ e.symm; have := h.hN; omega)).trans h.bx, ⟨h.hN.1, h.hN.2.1, Nat.le_trans h.hN.2.2 hg.size⟩, Kd.S_grown h.own hg (fun k hk e => by have := hr k e.symm; have := hk.2; omega)⟩

theorem S_book {α : Type} {d : Kd α} {e base : Nat} {ok : Nat → Prop} {W W' : World} {v : Value} {xs : List α} {row : Option Nat} (h : Kd.S d e W base ok v xs) (hg : W.grownBy W' row) (hr : ∀ r, row = some r → ∃ o : Obj, W.heap[r]? = some o ∧ isBook o = true) : Kd.S d e W' base ok v xs :=
  Kd.S_mono (Kd.S_grown (Kd.S_bound h) hg (fun k hk e => by
    obtain ⟨o, ho, hb⟩ := hr k e.symm
    obtain ⟨_, _, _, q, _, cells, hc⟩ := hk
    rw [hc] at ho; cases ho; cases hb)) (fun k hk => hk.1)
theorem FillI.book {w W W' : World} {N T B : Nat} {v : Value} {m : List (List Int)} (h : FillI w W N T v m) (hB : w.heap.size ≤ B) {row : Option Nat} (hg : W.grownBy W' row) (hr : ∀ r, row = some r → B ≤ r ∧ ∃ o : Obj, W.heap[r]? = some o ∧ isBook o = true) : FillI w W' N T v m :=
  have K : ∀ (b t : Nat) (cs : Array Value), BlkIs W b t cs → BlkIs W' b t cs := fun b t cs hb => Stab.blk (B := B) b t (fun _ : Unit => cs) () W W' row hb hg hr
  ⟨⟨K _ _ _ h.res.r1, K _ _ _ h.res.r2, (Stab.below (β := Unit) (Nat.le_refl _) hB) () W W' row h.res.b hg hr⟩, K _ _ _ h.bx, ⟨h.hN.1, h.hN.2.1, Nat.le_trans h.hN.2.2 hg.size⟩, S_book h.own hg (fun r e => (hr r e).2)⟩

theorem FillI.drewN {w W : World} {N T : Nat} {v : Value} {m : List (List Int)} (h : FillI w W N T v m) (n : Nat) : FillI w (W.drewN n) N T v m :=
  ⟨⟨h.res.r1, h.res.r2, pw_below_drewN h.res.b n⟩, h.bx, h.hN, Kd.S_drewN h.own n⟩
/-- a slot may be read, and given away -/
theorem FillI.slot {w W : World} {N T : Nat} {v : Value} {m : List (List Int)} (h : FillI w W N T v m) (r c : Nat) (hr : r < m.length) (hc : c < (rd_L4 m r).length) :
    ∃ (g cap gr cr : Nat), v = .slice (some ⟨g, 0, none⟩) m.length cap ∧ W.cell? ⟨g, r, none⟩ = some (.slice (some ⟨gr, 0, none⟩) (rd_L4 m r).length cr) ∧ W.cell? ⟨gr, c, none⟩ = some (.int .i64 (rd (rd_L4 m r) c)) ∧ W.frozen? ⟨gr, c, none⟩ = false ∧
      (w.heap.size + 2 ≤ gr ∧ gr < T ∧ gr ≠ N ∧ gr ≠ g) ∧ g < T ∧
      ∀ (n : Nat) (i : Int), FillI w ((W.drewN n).setCell ⟨gr, c, none⟩ (.int .i64 i)) N T v (m.set r ((rd_L4 m r).set c i)) := by
  obtain ⟨g, cap, rfl, hg1, hg2, cells, hcells⟩ := Kd.S_form h.own (by omega)
  have hok := (Kd.S_R h.own).1 g (by simp [Value.ownBlock])
  obtain ⟨oki, cs, hcl, hM, hcc, hoki, hput⟩ := Kd.S_borrow h.own [] (r : Int) (by omega) (by omega)
  obtain ⟨ve, rfl, ge⟩ := hM
  have ge' : Kd.R (Kd.int .i64) 3 W w.heap.size oki ve (rd_L4 m r) := ge
  obtain ⟨gr, cr, rfl, hb1, hb2, cells2, hcells2⟩ := Kd.R_form ge' (by omega)
  have hc0 := hcc 0 _ rfl
  simp only [Int.toNat_natCast, show (dRow).sz = 1 from rfl, Nat.mul_one, Nat.add_zero] at hc0
  have hgr : oki gr := ge'.1 gr (by simp [Value.ownBlock])
  have hk := hoki gr hgr
  obtain ⟨c2, hc2l, hc2M, hc2c, hc2f⟩ := Kd.R_elem ge' 0 (c : Int) (by omega) (by omega)
  obtain rfl : c2 = [.int .i64 ((rd_L4 m r).getD (c : Int).toNat 0)] := hc2M
  have hx := hc2c 0 _ rfl
  have hf := hc2f 0
  simp only [Int.toNat_natCast, show ((Kd.int .i64).sz) = 1 from rfl, Nat.mul_one, Nat.add_zero] at hx hf
  rw [add_plain] at hc0
  refine ⟨g, cap, gr, cr, rfl, hc0, hx, hf, ⟨hk.1.1.1, hk.1.2, hk.1.1.2, fun e => hk.2 (by rw [e]; simp [Value.ownBlock])⟩, hok.2, fun n i => ?_⟩
  have hp := Kd.R_putg ge' (c : Int) i
  rw [Int.toNat_natCast] at hp
  have hS := hput (row := some gr) (x' := (rd_L4 m r).set c i) hp.2 (fun k e => by cases e; exact hgr) ⟨_, rfl, hp.1⟩
  rw [Int.toNat_natCast] at hS
  have hF : FillI w (W.setCell ⟨gr, c, none⟩ (.int .i64 i)) N T (.slice (some ⟨g, 0, none⟩) m.length cap) (m.set r ((rd_L4 m r).set c i)) :=
    ⟨h.res.setCell (p := ⟨gr, c, none⟩) hk.1.1.1 _, BlkIs.other h.bx (p := ⟨gr, c, none⟩) (fun e => hk.1.1.2 e.symm) _, ⟨h.hN.1, h.hN.2.1, by have := h.hN.2.2; simpa using this⟩, hS⟩
  exact hF.drewN n

/-- a place's round: its number, itself -/
structure RndI (w W : World) (ds : List Deferred) (N T0 : Nat) (v : Value) (m : List (List Int)) (T i : Nat) (p : Pl) : Prop where
  fi : FillI w W N T0 v m
  bi : BlkIs W T 3 #[.int .i64 (i : Int)]
  bp : BlkIs W (T + 1) 40 #[.int .i64 p.f0, .int .i64 p.f1, .int .i64 p.f2, .int .i64 p.f3, .int .i64 p.f4]
  hT : T0 ≤ T
  mks : Marks w.heap.size ds W
theorem RndI.of {w W : World} {N T0 : Nat} {v : Value} {m : List (List Int)} {i : Nat} {p : Pl} {ds : List Deferred} (h : FillI w W N T0 v m) (hm : Marks w.heap.size ds W) : RndI w ((W.alloc (.cells #[.int .i64 (i : Int)] 3)).alloc (.cells #[.int .i64 p.f0, .int .i64 p.f1, .int .i64 p.f2, .int .i64 p.f3, .int .i64 p.f4] 40)) ds N T0 v m W.heap.size i p :=
  ⟨(h.grown (World.grownBy_alloc W _ none) (fun k e => by cases e)).grown (World.grownBy_alloc _ _ none) (fun k e => by cases e), BlkIs.alloc (World.alloc_heap_new W _) _,
    by have := World.alloc_heap_new (W.alloc (.cells #[.int .i64 (i : Int)] 3)) (.cells #[.int .i64 p.f0, .int .i64 p.f1, .int .i64 p.f2, .int .i64 p.f3, .int .i64 p.f4] 40); rwa [World.size_alloc] at this, h.hN.2.2, hm.keep (((KeepBook.refl W).alloc _).alloc _).to⟩
theorem RndI.call {w W V : World} {N T0 : Nat} {v : Value} {m : List (List Int)} {T i : Nat} {p : Pl} {o : Obj} {ds : List Deferred} (h : RndI w W ds N T0 v m T i p) (hb : Below (W.alloc o).heap.size (W.alloc o) V) : RndI w V ds N T0 v m T i p :=
  have hg : (W.alloc o).grownBy V none := ⟨hb.os, hb.tape, hb.output, hb.size, fun k hk _ => hb.block k hk⟩
  ⟨(h.fi.grown (World.grownBy_alloc W o none) (fun k e => by cases e)).grown hg (fun k e => by cases e), BlkIs.call h.bi hb, BlkIs.call h.bp hb, h.hT, h.mks.keep (keep_call (KeepBook.refl W) hb).to⟩
theorem RndI.facts {w W : World} {N T0 : Nat} {v : Value} {m : List (List Int)} {T i : Nat} {p : Pl} {ds : List Deferred} (h : RndI w W ds N T0 v m T i p) :
    W.cell? ⟨T + 1, 0, none⟩ = some (.int .i64 p.f0) ∧ W.cell? ⟨T + 1, 1, none⟩ = some (.int .i64 p.f1) ∧ W.cell? ⟨T + 1, 2, none⟩ = some (.int .i64 p.f2) ∧ W.cell? ⟨T + 1, 3, none⟩ = some (.int .i64 p.f3) ∧ W.cell? ⟨T + 1, 4, none⟩ = some (.int .i64 p.f4) ∧ T + 1 < W.heap.size :=
  ⟨BlkIs.cell h.bp 0, BlkIs.cell h.bp 1, BlkIs.cell h.bp 2, BlkIs.cell h.bp 3, BlkIs.cell h.bp 4, BlkIs.lt h.bp⟩

/-- the rows in the making: k are whole, the next has q slots -/
def midM (R C k q : Nat) : List (List Int) := (List.range R).map (fun i => if i < k then List.replicate C (-1) else if i = k then List.replicate q (-1) else [])
theorem midM_len (R C k q : Nat) : (midM R C k q).length = R := by simp [midM]
theorem midM_rd (R C k q : Nat) (h : k < R) : rd_L4 (midM R C k q) k = List.replicate q (-1) := by
  unfold rd_L4 midM
  rw [Int.toNat_natCast, List.getD_eq_getElem?_getD, List.getElem?_map, List.getElem?_range h]
  simp
theorem midM_next (R C k q : Nat) (h : k < R) : (midM R C k q).set k (List.replicate q (-1) ++ [-1]) = midM R C k (q + 1) := by
  apply List.ext_getElem
  · rw [List.length_set, midM_len, midM_len]
  · intro i h1 h2
    have hi : i < R := by rw [midM_len] at h2; exact h2
    rw [List.getElem_set]
    by_cases e : k = i
    · subst e; simp [midM, List.replicate_succ']
    · have e' : ¬ i = k := fun h => e h.symm
      simp [midM, e, e']
theorem midM_row (R C k : Nat) : midM R C k C = midM R C (k + 1) 0 := by
  unfold midM
  apply List.map_congr_left
  intro i _
  by_cases h1 : i < k
  · rw [if_pos h1, if_pos (by omega)]
  · rw [if_neg h1]
    by_cases h2 : i = k
    · rw [if_pos h2, if_pos (by omega)]
    · rw [if_neg h2, if_neg (by omega)]; split <;> simp
theorem midM_zero (R C : Nat) : List.replicate R ([] : List Int) = midM R C 0 0 := by
  apply List.ext_getElem
  · rw [midM_len, List.length_replicate]
  · intro i h1 h2
    unfold midM; simp
theorem midM_all (R C : Nat) : midM R C R 0 = List.replicate R (List.replicate C (-1)) := by
  apply List.ext_getElem
  · rw [midM_len, List.length_replicate]
  · intro i h1 h2
    rw [midM_len] at h1
    unfold midM; simp [h1]

section
variable {F : Fence} {n : Nat} {P : Program} {ops : Array Oper} {Q : Exit → Act → World → Prop} {md : Region.Mode} {S : World → Prop}
theorem takeH3 {i : Nat} {d : Tmp} {oi : Oper} {v : Value} {fuel : Nat} {listed : Array Bool} {a : Act} {w : World} (hi : ops[i]? = some oi) (hdst : oi.dst = some d) (hd : noDefer ops = true)
    (hs : Region.noSelect ops = true) (hf : Region.free md ops listed i = true) (hr : (Region.ready md ops listed).contains i = true)
    (hQ : ∀ c a w, Q (.panic c) (a.put oi.dst v) w → Q (.panic c) a w) (hy : YieldsH P ops S oi v a) (hS : S w)
    (h : wpAnyInH F n P md ops Q S fuel (listed.setIfInBounds i true) { tmps := a.tmps.setIfInBounds d v, defers := a.defers } w) : wpAnyInH F n P md ops Q S (fuel + 1) listed a w :=
  takeH hi hd hs hf hr hQ hy hS (by unfold Act.put; rw [hdst]; exact h)
end

/-- while a place's slots are given away -/
structure SlotJ (w W : World) (N T0 : Nat) (v : Value) (m : List (List Int)) (T i X : Nat) (cs : Array Value) : Prop where
  fi : FillI w W N T0 v m
  bi : BlkIs W T 3 #[.int .i64 (i : Int)]
  bc : BlkIs W X 40 cs
  hT : T0 ≤ T ∧ T0 ≤ X
theorem SlotJ.book {w W W' : World} {N T0 B : Nat} {v : Value} {m : List (List Int)} {T i X : Nat} {cs : Array Value} (h : SlotJ w W N T0 v m T i X cs) (hB : w.heap.size ≤ B) {row : Option Nat} (hg : W.grownBy W' row) (hr : ∀ r, row = some r → B ≤ r ∧ ∃ o : Obj, W.heap[r]? = some o ∧ isBook o = true) : SlotJ w W' N T0 v m T i X cs :=
  have K : ∀ (b t : Nat) (cs : Array Value), BlkIs W b t cs → BlkIs W' b t cs := fun b t cs hb => Stab.blk (B := B) b t (fun _ : Unit => cs) () W W' row hb hg hr
  ⟨h.fi.book hB hg hr, K _ _ _ h.bi, K _ _ _ h.bc, h.hT⟩
theorem SlotJ.alloc {w W : World} {N T0 : Nat} {v : Value} {m : List (List Int)} {T i X : Nat} {cs : Array Value} (h : SlotJ w W N T0 v m T i X cs) (o : Obj) : SlotJ w (W.alloc o) N T0 v m T i X cs :=
  h.book (B := w.heap.size) (Nat.le_refl _) (World.grownBy_alloc _ _ none) (fun r e => by cases e)
theorem fillP_append (i p1 p2 : Int) : ∀ (xs ys : List (Nat × Nat)) (m : List (List Int)), fillP i p1 p2 (xs ++ ys) m = (fillP i p1 p2 xs m).bind (fillP i p1 p2 ys)
  | [], ys, m => rfl
  | x :: xs, ys, m => by
    rw [List.cons_append]
    show (if _ then none else fillP i p1 p2 (xs ++ ys) _) = (if _ then none else fillP i p1 p2 xs _ : Option _).bind _
    split
    · rfl
    · exact fillP_append i p1 p2 xs ys _


theorem slots_no2 {w W : World} {tmps : Array Value} {ds : List Deferred} (h : ResI w W) (h6 : tmps[6]? = some (.pointer (some ⟨w.heap.size, 0, none⟩))) (h7 : tmps[7]? = some (.pointer (some ⟨w.heap.size + 1, 0, none⟩))) (hm : Marks w.heap.size ds W) (ans : Option (List (List Int))) (ha : ans = none) :
    LeavesInM Fence.wide 0 Try.prog Try.f22 tmps (fun e w' => ∃ v0_ : Value, e = .returned (.tuple #[v0_, .int .i64 (slE ans)]) ∧ Kd.S dRow 23 w' w.heap.size (fun _ => True) v0_ (slM ans) ∧ Below w.heap.size w w') ds .returning ((W.setCell ⟨w.heap.size, 0, none⟩ (.slice none 0 0)).setCell ⟨w.heap.size + 1, 0, none⟩ (.int .i64 70)) := by
  have he := h.ends (.slice none 0 0) rfl 70
  subst ha
  exact slots_leaves (.slice none 0 0) 70 h6 h7 he.1 he.2.1 (hm.keep (((KeepBook.refl W).setCell _ _).setCell _ _).to) (fun W' hs => ⟨_, rfl, Kd.S_nil _ _ _ _ _, hs.stab _ (Stab.below (Nat.le_refl _) (Nat.le_refl _)) he.2.2⟩)

set_option maxRecDepth 100000 in
set_option maxHeartbeats 4000000 in
theorem slots_yes (l0 : List Pl) (A0 : Option Addr) (c0 : Nat) (R C : Nat) (w : World) (hr0 : Kd.C k40 w A0 l0.length l0) (hc0 : l0.length ≤ c0) (hR : R ≤ 65536) (hC : C ≤ 10000) (hRC : (R : Int) * C ≤ 1000000) (ans : Option (List (List Int))) (hans : slotsP R C 0 l0 (List.replicate R (List.replicate C (-1))) = ans) :
    Calls Try.prog 22 #[.slice A0 l0.length c0, .int .i64 R, .int .i64 C] w fun e w' => ∃ v0_ : Value, e = .returned (.tuple #[v0_, .int .i64 (slE ans)]) ∧
      Kd.S dRow 23 w' w.heap.size (fun _ => True) v0_ (slM ans) ∧ Below w.heap.size w w' := by
  have HK1 := Lib.hid (gwithin_t 0 65536 R true (decide_eq_true (by omega)))
  have HK2 := Lib.hid (gwithin_t 0 10000 C true (decide_eq_true (by omega)))
  have hmul0 : 0 ≤ (R : Int) * C := Int.mul_nonneg (by omega) (by omega)
  have hw : IntKind.i64.wrap ((R : Int) * C) = (R : Int) * C := IntWalk.i64_in _ (by omega)
  have hg : decide (1000000 < (R : Int) * C) = false := decide_eq_false (by omega)
  have H0 := Lib.hid hr0
  have HC0 := Lib.hid hc0
  have HR := Lib.hid hR
  have HC := Lib.hid hC
  have HANS := Lib.hid hans
  clear hans
  clear hr0 hc0 hRC hmul0 hR hC
  obtain ⟨m0, hm0⟩ : ∃ m0, m0 = midM R C 0 0 := ⟨_, rfl⟩
  have HM0 := Lib.hid hm0
  clear hm0
  refine calls_of_wp_marks Try.func22 rfl ?_
  simp only [Try.ntmps22, List.size_toArray, List.length_cons, List.length_nil, Nat.reduceAdd, Nat.reduceSub, Array.replicate_succ, Array.replicate_zero, List.push_toArray, List.append_toArray, List.nil_append, List.cons_append]
  go_upto_region 4 with (first
    | (go_at_call 37; (with_reducible refine (HK1.out _ _ (by simp)).mono ?_); rintro e w1 ⟨rfl, hb1⟩; have HR1 := Lib.hid ((ResI.new w).call hb1); clear hb1)
    | (go_at_call 37; (with_reducible refine (HK2.out _ _ (by simp)).mono ?_); rintro e w2 ⟨rfl, hb2⟩; have HR2 := Lib.hid (HR1.out.call hb2); clear HR1 hb2)
    | ((with_reducible refine gate_dst (N := 30) rfl ?_); (try (refine gate_guard (by rfl) ?_; dsimp only)); refine Kd.S_make (w0 := w) dRow w.heap.size 23 rfl (N := 30) rfl 36 _ _ rfl (R : Int) rfl rfl Try.underlying36 (.slice none 0 0) 24 info23 rfl (by decide) (by omega) [] (ok := fun k => w.heap.size + 2 ≤ k) (okp := fun _ => False) ⟨_, rfl, Kd.R_nil _ _ _ _ _⟩ (fun _ hk => hk.elim) (by have := BlkIs.lt HR2.out.r2; omega) (by omega) (by have := HR.out; omega) HR2.out.b HR2.out.b.size ?_; intro v3 w3 ho3 hb3 hg3 hnew3; rw [Int.toNat_natCast, midM_zero R C, ← HM0.out] at ho3; obtain ⟨A3, c3, rfl⟩ := Kd.S_slice ho3; have HR3 := Lib.hid (HR2.out.grown hg3 (fun k e => by cases e)); have HO3 := Lib.hid ho3; clear hb3 hg3 hnew3 ho3 HR2))
  have HI : Aside0 (RowI w (w3.alloc (.cells #[.slice A3 m0.length c3] 36)) w3.heap.size (.slice A3 m0.length c3) m0) :=
    ⟨HR3.out.grown (World.grownBy_alloc w3 _ none) (fun k e => by cases e), World.alloc_heap_new w3 _, by have := BlkIs.lt HR3.out.r2; omega, Kd.S_alloc (Kd.S_mono (Kd.S_bound HO3.out) (fun k hk => ⟨hk.1, by have := hk.2.2.1; omega⟩)) _⟩
  rw [show m0.length = R by rw [HM0.out, midM_len]] at HI ⊢
  rw [HM0.out] at HI
  clear HM0 HO3 HR3 hw hg HK1 HK2
  generalize w3.alloc (.cells #[.slice A3 R c3] 36) = W4 at HI ⊢
  generalize w3.heap.size = N at HI ⊢
  have y8 := BlkIs.cell HI.out.bx 0
  replace y8 : W4.cell? ⟨N, 0, none⟩ = some (.slice A3 R c3) := y8
  clear m0
  go_wp2
  go_loopw [33] (fun i wr => ∃ k : Nat, k ≤ R ∧ i = .int .i64 k ∧ Aside0 (RowI w wr N (.slice A3 R c3) (midM R C k 0))) (fun i _ => R - (intOf i).toNat)
  case atStart => exact ⟨0, by omega, rfl, HI⟩
  case round =>
    obtain ⟨k, hk, rfl, HI1⟩ := hrel
    clear HI y8
    by_cases hlt : k < R
    · have hltz : (k : Int) < (R : Int) := by omega
      go_wp2
      go_loopw [37] (fun i wr => ∃ q : Nat, q ≤ C ∧ i = .int .i64 q ∧ Aside0 (RowI w wr N (.slice A3 R c3) (midM R C k q))) (fun i _ => C - (intOf i).toNat)
      case atStart => exact ⟨0, by omega, rfl, HI1⟩
      case round =>
        obtain ⟨q, hq, rfl, HI2⟩ := hrel
        clear HI1
        by_cases hlt2 : q < C
        · have hltz2 : (q : Int) < (C : Int) := by omega
          obtain ⟨g, cap, Ar, cr, oki, hv, hcr, hrow, hput⟩ := HI2.out.lend k (by rw [midM_len]; exact hlt)
          rw [midM_len] at hv
          cases hv
          rw [midM_rd R C k q hlt] at hcr hrow hput
          have y8 : wr.cell? ⟨N, 0, none⟩ = some (.slice (some ⟨g, 0, none⟩) R c3) := BlkIs.cell HI2.out.bx 0
          obtain ⟨y, hy⟩ : ∃ y, y = List.replicate q (-1 : Int) := ⟨_, rfl⟩
          rw [← hy] at hcr hrow hput
          have HROW := Lib.hid hrow
          have HPUT := Lib.hid hput
          have HY := Lib.hid hy
          have HYL := Lib.hid (show y.length = q by rw [hy, List.length_replicate])
          have HB2 := Lib.hid HI2.out.res.b
          clear hrow hput hy
          go_wp2
          have HS : (fun V : World => V.cell? ⟨N, 0, none⟩ = some (.slice (some ⟨g, 0, none⟩) R c3)) wr.drew := y8
          have lg : g < wr.heap.size := World.block_lt_of_cell? wr _ hcr
          have lN : N < wr.heap.size := BlkIs.lt HI2.out.bx
          clear y8
          refine wp_onlyN ((wpIn_wide (n := 0)).1 ?_)
          refine beginH (fun V : World => V.cell? ⟨N, 0, none⟩ = some (.slice (some ⟨g, 0, none⟩) R c3)) (by kernel_rfl) ?_
          (refine takeH (i := 0) (v := ?_) rfl (by kernel_rfl) (by kernel_rfl) (by kernel_rfl) (by kernel_rfl) (fun _ _ _ h => h) ⟨Or.inl ⟨by rfl, ?_⟩, fun _ => rfl⟩ HS ?_; rotate_left; focus (rintro wS s1; go_simp; try (with_reducible rfl)); (try simp only [Act.put, List.setIfInBounds_toArray, List.set_cons_zero, List.set_cons_succ]))
          (refine takeH (i := 1) (v := ?_) rfl (by kernel_rfl) (by kernel_rfl) (by kernel_rfl) (by kernel_rfl) (fun _ _ _ h => h) ⟨Or.inl ⟨by rfl, ?_⟩, fun _ => rfl⟩ HS ?_; rotate_left; focus (rintro wS s1; go_simp; try (with_reducible rfl)); (try simp only [Act.put, List.setIfInBounds_toArray, List.set_cons_zero, List.set_cons_succ]))
          (refine takeH (i := 2) (v := ?_) rfl (by kernel_rfl) (by kernel_rfl) (by kernel_rfl) (by kernel_rfl) (fun _ _ _ h => h) ⟨Or.inl ⟨by rfl, ?_⟩, fun _ => rfl⟩ HS ?_; rotate_left; focus (rintro wS s1; go_simp; try (with_reducible rfl)); (try simp only [Act.put, List.setIfInBounds_toArray, List.set_cons_zero, List.set_cons_succ]))
          (refine takeH (i := 3) (v := ?_) rfl (by kernel_rfl) (by kernel_rfl) (by kernel_rfl) (by kernel_rfl) (fun _ _ _ h => h) ⟨Or.inl ⟨by rfl, ?_⟩, fun _ => rfl⟩ HS ?_; rotate_left; focus (rintro wS s1; go_simp; try (with_reducible rfl)); (try simp only [Act.put, List.setIfInBounds_toArray, List.set_cons_zero, List.set_cons_succ]))
          (refine takeH (i := 4) (v := ?_) rfl (by kernel_rfl) (by kernel_rfl) (by kernel_rfl) (by kernel_rfl) (fun _ _ _ h => h) ⟨Or.inl ⟨by rfl, ?_⟩, fun _ => rfl⟩ HS ?_; rotate_left; focus (rintro wS s1; go_simp; try (with_reducible rfl)); (try simp only [Act.put, List.setIfInBounds_toArray, List.set_cons_zero, List.set_cons_succ]))
          (refine twoH (i := 5) (j := 6) rfl rfl (by kernel_rfl) (fun K hK => ?_) (fun K hK => ?_))
          · go_simp
            (refine hK _ _ ⟨HS, ?_⟩; clear hK K; (try simp only [Act.put, List.setIfInBounds_toArray, List.set_cons_zero, List.set_cons_succ]))
            (refine oneH (i := 6) rfl (by kernel_rfl) (fun K hK => ?_); go_simp)
            have HS2 : (fun V : World => V.cell? ⟨N, 0, none⟩ = some (.slice (some ⟨g, 0, none⟩) R c3)) (wr.alloc (.cells #[.int .i64 (-1)] 3)).drew := by
              show (wr.alloc _).cell? _ = _
              rw [World.cell?_alloc_past _ _ _ (by exact lN)]
              exact HS
            (refine hK _ _ ⟨HS2, ?_⟩; clear hK K; (try simp only [Act.put, List.setIfInBounds_toArray, List.set_cons_zero, List.set_cons_succ]))
            refine oneH (i := 7) rfl (by kernel_rfl) (fun K hK => ?_)
            refine step_in rfl (Kd.R_append_step (Kd.int .i64) (w0 := w) (W := wr.drew) w.heap.size rfl (.tmp 44) (.tmp 45) 23 3 (.int .i64 0) 8 rfl Try.underlying23 info3 rfl (by decide) (by omega) (.slice Ar y.length cr) y (-1) [.int .i64 (-1)]
              (fun k => oki k ∨ (w.heap.size + 2 ≤ k ∧ k ≠ N) ∧ wr.heap.size ≤ k) (fun _ => False) rfl rfl rfl (fun _ hk => hk.elim) (fun k hk => .inr ⟨⟨by have := BlkIs.lt HI2.out.res.r2; have : wr.heap.size ≤ k := hk; omega, fun e => by have : wr.heap.size ≤ k := hk; omega⟩, hk⟩)
              (Kd.R_mono (Kd.R_drewN HROW.out 1) (fun _ hk => .inl hk)) (pw_below_drewN HB2.out 1) HB2.out.size (by have := HYL.out; have := HC.out; omega) ?_)
            intro v5 w5 ho5 hb5 hg5 _
            obtain ⟨y1, hy1⟩ : ∃ y1, y1 = y ++ [-1] := ⟨_, rfl⟩
            have HY1 := Lib.hid hy1
            rw [← hy1] at ho5
            clear hy1
            obtain ⟨z1, z2, z3, z4, z5, hI5⟩ := HPUT.out 1 w5 v5 y1 ho5 hg5
            obtain ⟨A5, c5, rfl⟩ := Kd.R_slice ho5
            have HI5 := Lib.hid hI5
            clear ho5 hb5 hg5 hI5
            simp only [Act.put, List.getElem_toArray, List.getElem_cons_succ, List.getElem_cons_zero]
            (refine hK _ _ ⟨z3, ?_⟩; clear hK K; (try simp only [Act.put, List.setIfInBounds_toArray, List.set_cons_zero, List.set_cons_succ]))
            (refine takeH (i := 8) (v := ?_) rfl (by kernel_rfl) (by kernel_rfl) (by kernel_rfl) (by kernel_rfl) (fun _ _ _ h => h) ⟨Or.inl ⟨by rfl, ?_⟩, fun _ => rfl⟩ z3 ?_; rotate_left; focus (rintro wS s1; go_simp; try (with_reducible rfl)); (try simp only [Act.put, List.setIfInBounds_toArray, List.set_cons_zero, List.set_cons_succ]))
            (refine oneH (i := 9) rfl (by kernel_rfl) (fun K hK => ?_); go_simp)
            (refine hK _ _ ⟨(BlkIs.cell HI5.out.bx 0), ?_⟩; clear hK K; (try simp only [Act.put, List.setIfInBounds_toArray, List.set_cons_zero, List.set_cons_succ]))
            (refine doneH (by kernel_rfl) ?_ _)
            simp only [onlyN]
            have HI6 : Aside0 (RowI w (w5.setCell ⟨g, k, none⟩ (.slice A5 y1.length c5)) N (.slice (some ⟨g, 0, none⟩) R c3) (midM R C k (q + 1))) := ⟨by have h := HI5.out; rwa [show (midM R C k q).set k y1 = midM R C k (q + 1) by rw [HY1.out, HY.out, midM_next R C k q hlt]] at h⟩
            clear HI5 HI2 hcr z1 z2 z3 z4 z5 HS lg lN HROW HPUT HY HY1 HYL HB2
            generalize w5.setCell ⟨g, k, none⟩ (.slice A5 y1.length c5) = W6 at HI6 ⊢
            generalize y1.length = ly
            have hCb := HC.out
            go_wp2
            go_roundw
            case rel => exact ⟨q + 1, by omega, by go_num, HI6⟩
            case measure => simp [intOf]; omega
          · go_simp
            have HS2 : (fun V : World => V.cell? ⟨N, 0, none⟩ = some (.slice (some ⟨g, 0, none⟩) R c3)) (wr.alloc (.cells #[.int .i64 (-1)] 3)).drew := by
              show (wr.alloc _).cell? _ = _
              rw [World.cell?_alloc_past _ _ _ (by exact lN)]
              exact HS
            have hcr2 : (wr.alloc (.cells #[.int .i64 (-1)] 3)).cell? ⟨g, k, none⟩ = some (.slice Ar y.length cr) := by
              rw [World.cell?_alloc_past _ _ _ (by exact lg)]
              exact hcr
            (refine hK _ _ ⟨HS2, ?_⟩; clear hK K; (try simp only [Act.put, List.setIfInBounds_toArray, List.set_cons_zero, List.set_cons_succ]))
            (refine oneH (i := 5) rfl (by kernel_rfl) (fun K hK => ?_); go_simp)
            (refine hK _ _ ⟨HS2, ?_⟩; clear hK K; (try simp only [Act.put, List.setIfInBounds_toArray, List.set_cons_zero, List.set_cons_succ]))
            refine oneH (i := 7) rfl (by kernel_rfl) (fun K hK => ?_)
            refine step_in rfl (Kd.R_append_step (Kd.int .i64) (w0 := w) (W := wr.drew) w.heap.size rfl (.tmp 44) (.tmp 45) 23 3 (.int .i64 0) 8 rfl Try.underlying23 info3 rfl (by decide) (by omega) (.slice Ar y.length cr) y (-1) [.int .i64 (-1)]
              (fun k => oki k ∨ (w.heap.size + 2 ≤ k ∧ k ≠ N) ∧ wr.heap.size ≤ k) (fun _ => False) rfl rfl rfl (fun _ hk => hk.elim) (fun k hk => .inr ⟨⟨by have := BlkIs.lt HI2.out.res.r2; have : wr.heap.size ≤ k := hk; omega, fun e => by have : wr.heap.size ≤ k := hk; omega⟩, hk⟩)
              (Kd.R_mono (Kd.R_drewN HROW.out 1) (fun _ hk => .inl hk)) (pw_below_drewN HB2.out 1) HB2.out.size (by have := HYL.out; have := HC.out; omega) ?_)
            intro v5 w5 ho5 hb5 hg5 _
            obtain ⟨y1, hy1⟩ : ∃ y1, y1 = y ++ [-1] := ⟨_, rfl⟩
            have HY1 := Lib.hid hy1
            rw [← hy1] at ho5
            clear hy1
            obtain ⟨z1, z2, z3, z4, z5, hI5⟩ := HPUT.out 1 w5 v5 y1 ho5 hg5
            obtain ⟨A5, c5, rfl⟩ := Kd.R_slice ho5
            have HI5 := Lib.hid hI5
            clear ho5 hb5 hg5 hI5
            simp only [Act.put, List.getElem_toArray, List.getElem_cons_succ, List.getElem_cons_zero]
            (refine hK _ _ ⟨z3, ?_⟩; clear hK K; (try simp only [Act.put, List.setIfInBounds_toArray, List.set_cons_zero, List.set_cons_succ]))
            (refine takeH (i := 8) (v := ?_) rfl (by kernel_rfl) (by kernel_rfl) (by kernel_rfl) (by kernel_rfl) (fun _ _ _ h => h) ⟨Or.inl ⟨by rfl, ?_⟩, fun _ => rfl⟩ z3 ?_; rotate_left; focus (rintro wS s1; go_simp; try (with_reducible rfl)); (try simp only [Act.put, List.setIfInBounds_toArray, List.set_cons_zero, List.set_cons_succ]))
            (refine oneH (i := 9) rfl (by kernel_rfl) (fun K hK => ?_); go_simp)
            (refine hK _ _ ⟨(BlkIs.cell HI5.out.bx 0), ?_⟩; clear hK K; (try simp only [Act.put, List.setIfInBounds_toArray, List.set_cons_zero, List.set_cons_succ]))
            (refine doneH (by kernel_rfl) ?_ _)
            simp only [onlyN]
            have HI6 : Aside0 (RowI w (w5.setCell ⟨g, k, none⟩ (.slice A5 y1.length c5)) N (.slice (some ⟨g, 0, none⟩) R c3) (midM R C k (q + 1))) := ⟨by have h := HI5.out; rwa [show (midM R C k q).set k y1 = midM R C k (q + 1) by rw [HY1.out, HY.out, midM_next R C k q hlt]] at h⟩
            clear HI5 HI2 hcr z1 z2 z3 z4 z5 HS lg lN HROW HPUT HY HY1 HYL HB2
            generalize w5.setCell ⟨g, k, none⟩ (.slice A5 y1.length c5) = W6 at HI6 ⊢
            generalize y1.length = ly
            have hCb := HC.out
            go_wp2
            go_roundw
            case rel => exact ⟨q + 1, by omega, by go_num, HI6⟩
            case measure => simp [intOf]; omega
        · have hqC : q = C := by omega
          subst hqC
          rw [midM_row R q k] at HI2
          have hRb := HR.out
          go_wp2
          go_roundw
          case rel => exact ⟨k + 1, by omega, by go_num, HI2⟩
          case measure => simp [intOf]; omega
    · have hkR : R = k := by omega
      subst hkR
      rw [midM_all R C] at HI1
      obtain ⟨T0, hT0⟩ : ∃ T0, T0 = wr.heap.size := ⟨_, rfl⟩
      have HF : Aside0 (FillI w wr N T0 (.slice A3 R c3) (List.replicate R (List.replicate C (-1)))) := ⟨by rw [hT0]; exact FillI.of HI1.out⟩
      clear hT0 HI1 hlt hk
      go_wp2
      refine wp_loop (fun a' W' => ∃ (i : Nat) (m : List (List Int)) (ds : List Deferred), ((i ≤ l0.length ∧ slotsP R C i (l0.drop i) m = ans ∧ DimM R C m) ∧ Marks w.heap.size ds W' ∧ Aside0 (FillI w W' N T0 (.slice A3 R c3) m)) ∧ ∃ u3 u4 u5 u9 u10 u11 u12 u13 u14 u15 u16 u17 u18 u19 u20 u21 u22 u23 u24 u25 u26 u27 u28 u29 u30 u31 u32 u33 u34 u35 u36 u37 u38 u39 u40 u41 u42 u43 u44 u45 u46 u47 u48 u49 u53 u54 u55 u56 u57 u58 u59 u60 u61 u62 u63 u64 u65 u66 u67 u68 u69 u70 u71 u72 u73 u74 u75 u76 u77 u78 u79 u80 u81 u82 u83 u84 u85 u86 u87 u88 u89 u90 u91 u92 u93 u94 u95 u96 u97 u98 u99 u100 u101 u102 u103 u104 u105 u106 u107 u108 u109 u110 u111 u112 u113 u114 u115 u116 : Value, a' = { tmps := List.toArray ((.slice A0 l0.length c0) :: (.int .i64 R) :: (.int .i64 C) :: (u3) :: (u4) :: (u5) :: (.pointer (some ⟨w.heap.size, 0, none⟩)) :: (.pointer (some ⟨w.heap.size + 1, 0, none⟩)) :: (.pointer (some ⟨N, 0, none⟩)) :: (u9) :: (u10) :: (u11) :: (u12) :: (u13) :: (u14) :: (u15) :: (u16) :: (u17) :: (u18) :: (u19) :: (u20) :: (u21) :: (u22) :: (u23) :: (u24) :: (u25) :: (u26) :: (u27) :: (u28) :: (u29) :: (u30) :: (u31) :: (u32) :: (u33) :: (u34) :: (u35) :: (u36) :: (u37) :: (u38) :: (u39) :: (u40) :: (u41) :: (u42) :: (u43) :: (u44) :: (u45) :: (u46) :: (u47) :: (u48) :: (u49) :: (.slice A0 l0.length c0) :: (.int .i64 l0.length) :: (.int .i64 i) :: (u53) :: (u54) :: (u55) :: (u56) :: (u57) :: (u58) :: (u59) :: (u60) :: (u61) :: (u62) :: (u63) :: (u64) :: (u65) :: (u66) :: (u67) :: (u68) :: (u69) :: (u70) :: (u71) :: (u72) :: (u73) :: (u74) :: (u75) :: (u76) :: (u77) :: (u78) :: (u79) :: (u80) :: (u81) :: (u82) :: (u83) :: (u84) :: (u85) :: (u86) :: (u87) :: (u88) :: (u89) :: (u90) :: (u91) :: (u92) :: (u93) :: (u94) :: (u95) :: (u96) :: (u97) :: (u98) :: (u99) :: (u100) :: (u101) :: (u102) :: (u103) :: (u104) :: (u105) :: (u106) :: (u107) :: (u108) :: (u109) :: (u110) :: (u111) :: (u112) :: (u113) :: (u114) :: (u115) :: (u116) :: []), defers := ds }) (fun a' _ => l0.length - (intOf (a'.tmps.getD 52 undef)).toNat) ?_ ?_
      · exact ⟨0, _, [], ⟨⟨Nat.zero_le _, by rw [List.drop_zero]; exact HANS.out, ⟨List.length_replicate, fun x hx => by rw [(List.mem_replicate.1 hx).2, List.length_replicate]⟩⟩, Marks.nil _ _, HF⟩, by ((repeat apply Exists.intro); rfl)⟩
      · rintro a' W' ⟨i, m, ds, ⟨⟨hi, hm, hdim⟩, hds, HF1⟩, hinv⟩
        obtain ⟨u3, hinv⟩ := hinv; obtain ⟨u4, hinv⟩ := hinv; obtain ⟨u5, hinv⟩ := hinv; obtain ⟨u9, hinv⟩ := hinv; obtain ⟨u10, hinv⟩ := hinv; obtain ⟨u11, hinv⟩ := hinv; obtain ⟨u12, hinv⟩ := hinv; obtain ⟨u13, hinv⟩ := hinv; obtain ⟨u14, hinv⟩ := hinv; obtain ⟨u15, hinv⟩ := hinv; obtain ⟨u16, hinv⟩ := hinv; obtain ⟨u17, hinv⟩ := hinv; obtain ⟨u18, hinv⟩ := hinv; obtain ⟨u19, hinv⟩ := hinv; obtain ⟨u20, hinv⟩ := hinv; obtain ⟨u21, hinv⟩ := hinv; obtain ⟨u22, hinv⟩ := hinv; obtain ⟨u23, hinv⟩ := hinv; obtain ⟨u24, hinv⟩ := hinv; obtain ⟨u25, hinv⟩ := hinv; obtain ⟨u26, hinv⟩ := hinv; obtain ⟨u27, hinv⟩ := hinv; obtain ⟨u28, hinv⟩ := hinv; obtain ⟨u29, hinv⟩ := hinv; obtain ⟨u30, hinv⟩ := hinv; obtain ⟨u31, hinv⟩ := hinv; obtain ⟨u32, hinv⟩ := hinv; obtain ⟨u33, hinv⟩ := hinv; obtain ⟨u34, hinv⟩ := hinv; obtain ⟨u35, hinv⟩ := hinv; obtain ⟨u36, hinv⟩ := hinv; obtain ⟨u37, hinv⟩ := hinv; obtain ⟨u38, hinv⟩ := hinv; obtain ⟨u39, hinv⟩ := hinv; obtain ⟨u40, hinv⟩ := hinv; obtain ⟨u41, hinv⟩ := hinv; obtain ⟨u42, hinv⟩ := hinv; obtain ⟨u43, hinv⟩ := hinv; obtain ⟨u44, hinv⟩ := hinv; obtain ⟨u45, hinv⟩ := hinv; obtain ⟨u46, hinv⟩ := hinv; obtain ⟨u47, hinv⟩ := hinv; obtain ⟨u48, hinv⟩ := hinv; obtain ⟨u49, hinv⟩ := hinv; obtain ⟨u53, hinv⟩ := hinv; obtain ⟨u54, hinv⟩ := hinv; obtain ⟨u55, hinv⟩ := hinv; obtain ⟨u56, hinv⟩ := hinv; obtain ⟨u57, hinv⟩ := hinv; obtain ⟨u58, hinv⟩ := hinv; obtain ⟨u59, hinv⟩ := hinv; obtain ⟨u60, hinv⟩ := hinv; obtain ⟨u61, hinv⟩ := hinv; obtain ⟨u62, hinv⟩ := hinv; obtain ⟨u63, hinv⟩ := hinv; obtain ⟨u64, hinv⟩ := hinv; obtain ⟨u65, hinv⟩ := hinv; obtain ⟨u66, hinv⟩ := hinv; obtain ⟨u67, hinv⟩ := hinv; obtain ⟨u68, hinv⟩ := hinv; obtain ⟨u69, hinv⟩ := hinv; obtain ⟨u70, hinv⟩ := hinv; obtain ⟨u71, hinv⟩ := hinv; obtain ⟨u72, hinv⟩ := hinv; obtain ⟨u73, hinv⟩ := hinv; obtain ⟨u74, hinv⟩ := hinv; obtain ⟨u75, hinv⟩ := hinv; obtain ⟨u76, hinv⟩ := hinv; obtain ⟨u77, hinv⟩ := hinv; obtain ⟨u78, hinv⟩ := hinv; obtain ⟨u79, hinv⟩ := hinv; obtain ⟨u80, hinv⟩ := hinv; obtain ⟨u81, hinv⟩ := hinv; obtain ⟨u82, hinv⟩ := hinv; obtain ⟨u83, hinv⟩ := hinv; obtain ⟨u84, hinv⟩ := hinv; obtain ⟨u85, hinv⟩ := hinv; obtain ⟨u86, hinv⟩ := hinv; obtain ⟨u87, hinv⟩ := hinv; obtain ⟨u88, hinv⟩ := hinv; obtain ⟨u89, hinv⟩ := hinv; obtain ⟨u90, hinv⟩ := hinv; obtain ⟨u91, hinv⟩ := hinv; obtain ⟨u92, hinv⟩ := hinv; obtain ⟨u93, hinv⟩ := hinv; obtain ⟨u94, hinv⟩ := hinv; obtain ⟨u95, hinv⟩ := hinv; obtain ⟨u96, hinv⟩ := hinv; obtain ⟨u97, hinv⟩ := hinv; obtain ⟨u98, hinv⟩ := hinv; obtain ⟨u99, hinv⟩ := hinv; obtain ⟨u100, hinv⟩ := hinv; obtain ⟨u101, hinv⟩ := hinv; obtain ⟨u102, hinv⟩ := hinv; obtain ⟨u103, hinv⟩ := hinv; obtain ⟨u104, hinv⟩ := hinv; obtain ⟨u105, hinv⟩ := hinv; obtain ⟨u106, hinv⟩ := hinv; obtain ⟨u107, hinv⟩ := hinv; obtain ⟨u108, hinv⟩ := hinv; obtain ⟨u109, hinv⟩ := hinv; obtain ⟨u110, hinv⟩ := hinv; obtain ⟨u111, hinv⟩ := hinv; obtain ⟨u112, hinv⟩ := hinv; obtain ⟨u113, hinv⟩ := hinv; obtain ⟨u114, hinv⟩ := hinv; obtain ⟨u115, hinv⟩ := hinv; obtain ⟨u116, hinv⟩ := hinv
        subst hinv
        clear HF
        by_cases hlt : i < l0.length
        · have hltz : (i : Int) < (l0.length : Int) := by omega
          obtain ⟨p, hp⟩ : ∃ p, l0[i]? = some p := ⟨_, List.getElem?_eq_getElem hlt⟩
          obtain ⟨ad, hA, hcells⟩ := H0.out.2.2 (by omega)
          obtain ⟨cs, hcl, hK0, hcell⟩ := hcells i p hp
          obtain rfl := k40_open hK0
          have HF2 := HF1
          have HP := Lib.hid hp
          have HM := Lib.hid hm
          have HDim := Lib.hid hdim
          have HDs := Lib.hid hds
          have y0 : W'.cell? (ad.add (i * 5)) = some (.int .i64 p.f0) := (HF1.out.res.b.cell (World.block_lt_of_cell? w _ (hcell 0 _ rfl))).trans (hcell 0 _ rfl)
          have y1 : W'.cell? ⟨(ad.add (i * 5)).block, (ad.add (i * 5)).off + 1, none⟩ = some (.int .i64 p.f1) := by rw [← add_field _ _ 1 (by omega)]; exact (HF1.out.res.b.cell (World.block_lt_of_cell? w _ (hcell 1 _ rfl))).trans (hcell 1 _ rfl)
          have y2 : W'.cell? ⟨(ad.add (i * 5)).block, (ad.add (i * 5)).off + 2, none⟩ = some (.int .i64 p.f2) := by rw [← add_field _ _ 2 (by omega)]; exact (HF1.out.res.b.cell (World.block_lt_of_cell? w _ (hcell 2 _ rfl))).trans (hcell 2 _ rfl)
          have y3 : W'.cell? ⟨(ad.add (i * 5)).block, (ad.add (i * 5)).off + 3, none⟩ = some (.int .i64 p.f3) := by rw [← add_field _ _ 3 (by omega)]; exact (HF1.out.res.b.cell (World.block_lt_of_cell? w _ (hcell 3 _ rfl))).trans (hcell 3 _ rfl)
          have y4 : W'.cell? ⟨(ad.add (i * 5)).block, (ad.add (i * 5)).off + 4, none⟩ = some (.int .i64 p.f4) := by rw [← add_field _ _ 4 (by omega)]; exact (HF1.out.res.b.cell (World.block_lt_of_cell? w _ (hcell 4 _ rfl))).trans (hcell 4 _ rfl)
          subst hA
          clear hcell hK0 hcl hcells hp hm hdim hds
          go_upto_region 15 with fail
          have HRn : Aside0 (RndI w _ ds N T0 (.slice A3 R c3) m W'.heap.size i p) := ⟨RndI.of HF1.out HDs.out⟩
          clear y0 y1 y2 y3 y4 HF1 HF2 HDs
          generalize (W'.alloc (.cells #[.int .i64 (i : Int)] 3)).alloc (.cells #[.int .i64 p.f0, .int .i64 p.f1, .int .i64 p.f2, .int .i64 p.f3, .int .i64 p.f4] 40) = W5 at HRn ⊢
          generalize W'.heap.size = T at HRn ⊢
          clear W'
          obtain ⟨p0, p1, p2, p3, p4⟩ := p
          obtain ⟨y0, y1, y2, y3, y4, s1⟩ := HRn.out.facts
          dsimp only at y0 y1 y2 y3 y4
          have hcons : l0.drop i = ⟨p0, p1, p2, p3, p4⟩ :: l0.drop (i + 1) := by
            obtain ⟨h1, h2⟩ := List.getElem?_eq_some_iff.1 HP.out
            rw [List.drop_eq_getElem_cons h1, h2]
          have hst := HM.out
          rw [hcons] at hst
          unfold slotsP at hst
          unfold placeOKB at hst
          dsimp only at hst
          clear hcons HM
          by_cases q1 : 0 ≤ p1 ∧ p1 ≤ R
          rotate_left
          focus
            have K1 := Lib.hid (gwithin_t 0 R p1 false (decide_eq_false q1))
            rw [decide_eq_false q1] at hst
            have HA := Lib.hid (show ans = none by rw [← hst]; simp)
            clear hst q1
            go_wp2_with (first
            | (go_at_call 37; (with_reducible refine (K1.out _ _ (by simp)).mono ?_); rintro e x1 ⟨rfl, hb⟩; have HQ := Aside0.mk (HRn.out.call hb); clear HRn hb y0 y1 y2 y3 y4 s1; have HRn := HQ; clear HQ; obtain ⟨y0, y1, y2, y3, y4, s1⟩ := HRn.out.facts; dsimp only at y0 y1 y2 y3 y4; obtain ⟨⟨f1, f2⟩, ⟨e1, e2⟩, s2, s3⟩ := HRn.out.fi.res.facts))
            exact slots_no2 HRn.out.fi.res rfl rfl HRn.out.mks ans HA.out
          have K1 := Lib.hid (gwithin_t 0 R p1 true (decide_eq_true q1))
          have hw3 : IntKind.i64.wrap ((R : Int) - p1) = (R : Int) - p1 := IntWalk.i64_in _ (by have := HR.out; omega)
          by_cases q2 : 0 ≤ p2 ∧ p2 ≤ C
          rotate_left
          focus
            have K2 := Lib.hid (gwithin_t 0 C p2 false (decide_eq_false q2))
            rw [decide_eq_false q2] at hst
            have HA := Lib.hid (show ans = none by rw [← hst]; simp)
            clear hst q1 q2
            go_wp2_with (first
            | (go_at_call 37; (with_reducible refine (K1.out _ _ (by simp)).mono ?_); rintro e x1 ⟨rfl, hb⟩; have HQ := Aside0.mk (HRn.out.call hb); clear HRn hb y0 y1 y2 y3 y4 s1; have HRn := HQ; clear HQ; obtain ⟨y0, y1, y2, y3, y4, s1⟩ := HRn.out.facts; dsimp only at y0 y1 y2 y3 y4)
            | (go_at_call 37; (with_reducible refine (K2.out _ _ (by simp)).mono ?_); rintro e x2 ⟨rfl, hb⟩; have HQ := Aside0.mk (HRn.out.call hb); clear HRn hb y0 y1 y2 y3 y4 s1; have HRn := HQ; clear HQ; obtain ⟨y0, y1, y2, y3, y4, s1⟩ := HRn.out.facts; dsimp only at y0 y1 y2 y3 y4; obtain ⟨⟨f1, f2⟩, ⟨e1, e2⟩, s2, s3⟩ := HRn.out.fi.res.facts))
            exact slots_no2 HRn.out.fi.res rfl rfl HRn.out.mks ans HA.out
          have K2 := Lib.hid (gwithin_t 0 C p2 true (decide_eq_true q2))
          have hw4 : IntKind.i64.wrap ((C : Int) - p2) = (C : Int) - p2 := IntWalk.i64_in _ (by have := HC.out; omega)
          by_cases q3 : 1 ≤ p3 ∧ p3 ≤ R - p1
          rotate_left
          focus
            have K3 := Lib.hid (gwithin_t 1 (R - p1) p3 false (decide_eq_false q3))
            rw [decide_eq_false q3] at hst
            have HA := Lib.hid (show ans = none by rw [← hst]; simp)
            clear hst q1 q2 q3
            go_wp2_with (first
            | (go_at_call 37; (with_reducible refine (K1.out _ _ (by simp)).mono ?_); rintro e x1 ⟨rfl, hb⟩; have HQ := Aside0.mk (HRn.out.call hb); clear HRn hb y0 y1 y2 y3 y4 s1; have HRn := HQ; clear HQ; obtain ⟨y0, y1, y2, y3, y4, s1⟩ := HRn.out.facts; dsimp only at y0 y1 y2 y3 y4)
            | (go_at_call 37; (with_reducible refine (K2.out _ _ (by simp)).mono ?_); rintro e x2 ⟨rfl, hb⟩; have HQ := Aside0.mk (HRn.out.call hb); clear HRn hb y0 y1 y2 y3 y4 s1; have HRn := HQ; clear HQ; obtain ⟨y0, y1, y2, y3, y4, s1⟩ := HRn.out.facts; dsimp only at y0 y1 y2 y3 y4)
            | (go_at_call 37; (with_reducible refine (K3.out _ _ (by simp)).mono ?_); rintro e x3 ⟨rfl, hb⟩; have HQ := Aside0.mk (HRn.out.call hb); clear HRn hb y0 y1 y2 y3 y4 s1; have HRn := HQ; clear HQ; obtain ⟨y0, y1, y2, y3, y4, s1⟩ := HRn.out.facts; dsimp only at y0 y1 y2 y3 y4; obtain ⟨⟨f1, f2⟩, ⟨e1, e2⟩, s2, s3⟩ := HRn.out.fi.res.facts))
            exact slots_no2 HRn.out.fi.res rfl rfl HRn.out.mks ans HA.out
          have K3 := Lib.hid (gwithin_t 1 (R - p1) p3 true (decide_eq_true q3))
          by_cases q4 : 1 ≤ p4 ∧ p4 ≤ C - p2
          rotate_left
          focus
            have K4 := Lib.hid (gwithin_t 1 (C - p2) p4 false (decide_eq_false q4))
            rw [decide_eq_false q4] at hst
            have HA := Lib.hid (show ans = none by rw [← hst]; simp)
            clear hst q1 q2 q3 q4
            go_wp2_with (first
            | (go_at_call 37; (with_reducible refine (K1.out _ _ (by simp)).mono ?_); rintro e x1 ⟨rfl, hb⟩; have HQ := Aside0.mk (HRn.out.call hb); clear HRn hb y0 y1 y2 y3 y4 s1; have HRn := HQ; clear HQ; obtain ⟨y0, y1, y2, y3, y4, s1⟩ := HRn.out.facts; dsimp only at y0 y1 y2 y3 y4)
            | (go_at_call 37; (with_reducible refine (K2.out _ _ (by simp)).mono ?_); rintro e x2 ⟨rfl, hb⟩; have HQ := Aside0.mk (HRn.out.call hb); clear HRn hb y0 y1 y2 y3 y4 s1; have HRn := HQ; clear HQ; obtain ⟨y0, y1, y2, y3, y4, s1⟩ := HRn.out.facts; dsimp only at y0 y1 y2 y3 y4)
            | (go_at_call 37; (with_reducible refine (K3.out _ _ (by simp)).mono ?_); rintro e x3 ⟨rfl, hb⟩; have HQ := Aside0.mk (HRn.out.call hb); clear HRn hb y0 y1 y2 y3 y4 s1; have HRn := HQ; clear HQ; obtain ⟨y0, y1, y2, y3, y4, s1⟩ := HRn.out.facts; dsimp only at y0 y1 y2 y3 y4)
            | (go_at_call 37; (with_reducible refine (K4.out _ _ (by simp)).mono ?_); rintro e x4 ⟨rfl, hb⟩; have HQ := Aside0.mk (HRn.out.call hb); clear HRn hb y0 y1 y2 y3 y4 s1; have HRn := HQ; clear HQ; obtain ⟨y0, y1, y2, y3, y4, s1⟩ := HRn.out.facts; dsimp only at y0 y1 y2 y3 y4; obtain ⟨⟨f1, f2⟩, ⟨e1, e2⟩, s2, s3⟩ := HRn.out.fi.res.facts))
            exact slots_no2 HRn.out.fi.res rfl rfl HRn.out.mks ans HA.out
          have K4 := Lib.hid (gwithin_t 1 (C - p2) p4 true (decide_eq_true q4))
          obtain ⟨nr, rfl⟩ := Int.eq_ofNat_of_zero_le (show 0 ≤ p3 by omega)
          obtain ⟨nc, rfl⟩ := Int.eq_ofNat_of_zero_le (show 0 ≤ p4 by omega)
          obtain ⟨P1, rfl⟩ := Int.eq_ofNat_of_zero_le (show 0 ≤ p1 by omega)
          obtain ⟨P2, rfl⟩ := Int.eq_ofNat_of_zero_le (show 0 ≤ p2 by omega)
          rw [decide_eq_true q1, decide_eq_true q2, decide_eq_true q3, decide_eq_true q4, Bool.true_and, Bool.true_and, Bool.true_and, if_pos rfl, Int.toNat_natCast, Int.toNat_natCast] at hst
          have HST := Lib.hid hst
          have HQ1 := Lib.hid (show P1 + nr ≤ R by omega)
          have HQ2 := Lib.hid (show P2 + nc ≤ C by omega)
          clear hst q1 q2 q3 q4
          go_wp2_with (first
            | (go_at_call 37; (with_reducible refine (K1.out _ _ (by simp)).mono ?_); rintro e x1 ⟨rfl, hb⟩; have HQ := Aside0.mk (HRn.out.call hb); clear HRn hb y0 y1 y2 y3 y4 s1; have HRn := HQ; clear HQ; obtain ⟨y0, y1, y2, y3, y4, s1⟩ := HRn.out.facts; dsimp only at y0 y1 y2 y3 y4)
            | (go_at_call 37; (with_reducible refine (K2.out _ _ (by simp)).mono ?_); rintro e x2 ⟨rfl, hb⟩; have HQ := Aside0.mk (HRn.out.call hb); clear HRn hb y0 y1 y2 y3 y4 s1; have HRn := HQ; clear HQ; obtain ⟨y0, y1, y2, y3, y4, s1⟩ := HRn.out.facts; dsimp only at y0 y1 y2 y3 y4)
            | (go_at_call 37; (with_reducible refine (K3.out _ _ (by simp)).mono ?_); rintro e x3 ⟨rfl, hb⟩; have HQ := Aside0.mk (HRn.out.call hb); clear HRn hb y0 y1 y2 y3 y4 s1; have HRn := HQ; clear HQ; obtain ⟨y0, y1, y2, y3, y4, s1⟩ := HRn.out.facts; dsimp only at y0 y1 y2 y3 y4)
            | (go_at_call 37; (with_reducible refine (K4.out _ _ (by simp)).mono ?_); rintro e x4 ⟨rfl, hb⟩; have HQ := Aside0.mk (HRn.out.call hb); clear HRn hb y0 y1 y2 y3 y4 s1; have HRn := HQ; clear HQ; obtain ⟨y0, y1, y2, y3, y4, s1⟩ := HRn.out.facts; dsimp only at y0 y1 y2 y3 y4)
            | (go_at_call 38; refine (owned_any p0 P1 P2 nr nc _).mono ?_; rintro e x5 ⟨rfl, rfl⟩))
          have HJ0 : Aside0 (SlotJ w (x4.alloc (.cells (placeC p0 P1 P2 nr nc) 40)) N T0 (.slice A3 R c3) m T i x4.heap.size (placeC p0 P1 P2 nr nc)) :=
            ⟨HRn.out.fi.grown (World.grownBy_alloc _ _ none) (fun k e => by cases e), BlkIs.alloc HRn.out.bi _, World.alloc_heap_new x4 _, ⟨HRn.out.hT, HRn.out.fi.hN.2.2⟩⟩
          have HMk : Hid (Marks w.heap.size ds (x4.alloc (.cells (placeC p0 P1 P2 nr nc) 40))) := Lib.hid (HRn.out.mks.keep ((KeepBook.refl x4).alloc _).to)
          have HSz : Hid (w.heap.size ≤ (x4.alloc (.cells (placeC p0 P1 P2 nr nc) 40)).heap.size) := Lib.hid HJ0.out.fi.res.b.size
          clear HRn y0 y1 y2 y3 y4 s1 K1 K2 K3 K4 hw3 hw4
          generalize x4.alloc (.cells (placeC p0 P1 P2 nr nc) 40) = X5 at HJ0 HMk HSz ⊢
          generalize x4.heap.size = X at HJ0 ⊢
          clear x4
          refine wp_range_plain (owned1_iter p0 P1 P2 nr nc X (by have := HQ1.out; have := HR.out; omega) (by have := HQ2.out; have := HC.out; omega)) (enters_of Try.func54 (by kernel_rfl) rfl) rfl (fun _ => rfl)
            (fun (pre : List (Nat × Nat)) V => ∃ m', (fillP i P1 P2 pre m = some m' ∧ DimM R C m') ∧ SlotJ w V N T0 (.slice A3 R c3) m' T i X (placeC p0 P1 P2 nr nc))
            (fun (c : Code) V => (c = .ret ∧ fillP i P1 P2 (slotsOf nr nc) m = none) ∧ BlkIs V w.heap.size 36 #[.slice none 0 0] ∧ BlkIs V (w.heap.size + 1) 27 #[.int .i64 70] ∧ Below w.heap.size w V)
            (by
              rintro pre V V' row ⟨m', hp, hJ⟩ hg hr
              exact ⟨m', hp, hJ.book HSz.out hg hr⟩)
            (Stab.and (Stab.pure _ (fun (c : Code) => c = .ret ∧ fillP i P1 P2 (slotsOf nr nc) m = none)) (Stab.and (Stab.blk w.heap.size _ (fun _ => #[.slice none 0 0])) (Stab.and (Stab.blk (w.heap.size + 1) _ (fun _ => #[.int .i64 70])) (Stab.below (Nat.le_refl _) HSz.out))))
            (fun pre V ⟨m', _, hJ⟩ => hJ.bc) ⟨m, ⟨rfl, HDim.out⟩, HJ0.out⟩ ?round ?done ?stop
          case stop =>
            rintro D c V hD ⟨⟨rfl, hn⟩, hb1, hb2, hbw⟩ hbook hd
            have HA := Lib.hid (show ans = none by rw [← HST.out, hn]; rfl)
            have HB1 := Lib.hid (And.intro hb1 (And.intro hb2 hbw))
            have HMk2 := Lib.hid (HMk.out.cons HSz.out hD hbook hd)
            clear hn hb1 hb2 hbw hbook hd HST
            go_wp2
            rw [HA.out]
            exact slots_leaves (.slice none 0 0) 70 rfl rfl (BlkIs.cell HB1.out.1 0) (BlkIs.cell HB1.out.2.1 0) HMk2.out (fun W2 hs => ⟨_, rfl, Kd.S_nil _ _ _ _ _, hs.stab _ (Stab.below (Nat.le_refl _) (Nat.le_refl _)) HB1.out.2.2⟩)
          case done =>
            rintro D V hD ⟨m', ⟨hf, hd'⟩, hJ⟩ hbook hd
            have HM := Lib.hid (show slotsP R C (i + 1) (l0.drop (i + 1)) m' = ans by rw [← HST.out, hf]; rfl)
            have HDim' := Lib.hid hd'
            have HMk2 := Lib.hid (HMk.out.cons HSz.out hD hbook hd)
            have HFF := Aside0.mk hJ.fi
            have hlb := HC0.out
            have hbig := H0.out.2.1
            have hwi : IntKind.i64.wrap ((i : Int) + 1) = (i : Int) + 1 := IntWalk.i64_in _ (by omega)
            clear hf hd' hJ hbook hd HST
            go_wp2
            refine ⟨⟨i + 1, m', markOf D :: ds, ⟨⟨by omega, HM.out, HDim'.out⟩, HMk2.out, HFF⟩, by ((repeat apply Exists.intro); rfl)⟩, ?_⟩
            simp [intOf]; omega
          case round =>
            rintro lp pre ⟨a, b⟩ rest W hx hl ⟨m', ⟨hf, hd⟩, hJ⟩
            have hmem := mem_slots (nr := nr) (nc := nc) (x := (a, b)) (by rw [hx]; simp)
            dsimp only at hmem
            have HF := Lib.hid hf
            have HD := Lib.hid hd
            have HX := Lib.hid hx
            have HJ1 := Lib.hid hJ
            clear hf hd hx hJ HJ0
            dsimp only [slotV]
            gi_wp2
            refine ⟨by (repeat (first | (with_reducible exact KeepBook.refl _) | (with_reducible refine KeepBook.alloc ?_ _) | (with_reducible refine KeepBook.setCell ?_ _ _) | (with_reducible refine KeepBook.drew ?_) | (refine KeepBook.below ?_ (by assumption)))), ?_⟩
            rintro W2 hs _
            obtain ⟨r, hr⟩ : ∃ r : Nat, (P1 : Int) + (a : Int) = (r : Int) := ⟨P1 + a, by omega⟩
            obtain ⟨q, hq⟩ : ∃ q : Nat, (P2 : Int) + (b : Int) = (q : Int) := ⟨P2 + b, by omega⟩
            have hrR : r < R := by have := HQ1.out; omega
            have hqC : q < C := by have := HQ2.out; omega
            have hJ2 : SlotJ w W2 N T0 (.slice A3 R c3) m' T i X (placeC p0 P1 P2 nr nc) := hs.stab (fun V => SlotJ w V N T0 (.slice A3 R c3) m' T i X (placeC p0 P1 P2 nr nc)) (fun _ V V' row hV hg hr => hV.book HSz.out hg hr) (HJ1.out.alloc _)
            have hZ : BlkIs W2 W.heap.size 78 #[.int .i64 (P1 + a), .int .i64 (P2 + b)] := hs.blk (World.alloc_heap_new W _)
            have hTZ : T0 ≤ W.heap.size := HJ1.out.fi.hN.2.2
            generalize W.heap.size = Z at hZ hTZ ⊢
            rw [hr, hq] at hZ
            have HRq := Lib.hid (And.intro hr hq)
            have hdl : r < m'.length := by rw [HD.out.1]; exact hrR
            have hdr : (rd_L4 m' r).length = C := rd_dim (c := 0) HD.out ⟨by omega, by omega⟩
            obtain ⟨g, cap, gr, cr, hv, hrow, hval, hfr, hgr, hgT, hput⟩ := hJ2.fi.slot r q hdl (by rw [hdr]; exact hqC)
            rw [HD.out.1] at hv
            cases hv
            have hlen : ((q : Nat) : Int) < ((rd_L4 m' r).length : Int) := by rw [hdr]; omega
            generalize hll : (rd_L4 m' r).length = len at hrow hlen
            have hval' := hval
            generalize hvv : rd (rd_L4 m' r) q = val at hval
            have hrz : (r : Int) < (R : Int) := by omega
            have y8 : W2.cell? ⟨N, 0, none⟩ = some (.slice (some ⟨g, 0, none⟩) R c3) := BlkIs.cell hJ2.fi.bx 0
            have z0 : W2.cell? ⟨Z, 0, none⟩ = some (.int .i64 (r : Int)) := BlkIs.cell hZ 0
            have z1 : W2.cell? ⟨Z, 1, none⟩ = some (.int .i64 (q : Int)) := BlkIs.cell hZ 1
            have t0 : W2.cell? ⟨T, 0, none⟩ = some (.int .i64 (i : Int)) := BlkIs.cell hJ2.bi 0
            have HV := Lib.hid (And.intro hll hvv)
            have HJ2 := Lib.hid hJ2
            have HPut := Lib.hid hput
            have HZb := Lib.hid hZ
            have HGR := Lib.hid hgr
            have HGT := Lib.hid hgT
            have HCV := Lib.hid hval
            clear hll hvv hJ2 hput hZ hs hgr hgT hval' hdr hdl hr hq
            gi_wp2
            have HS : (fun V : World => V.cell? ⟨N, 0, none⟩ = some (.slice (some ⟨g, 0, none⟩) R c3) ∧ V.cell? ⟨Z, 0, none⟩ = some (.int .i64 (r : Int)) ∧ V.cell? ⟨Z, 1, none⟩ = some (.int .i64 (q : Int)) ∧ V.cell? ⟨g, r, none⟩ = some (.slice (some ⟨gr, 0, none⟩) len cr) ∧ V.cell? ⟨gr, q, none⟩ = some (.int .i64 val)) W2.drew := ⟨y8, z0, z1, hrow, hval⟩
            refine beginH (fun V : World => V.cell? ⟨N, 0, none⟩ = some (.slice (some ⟨g, 0, none⟩) R c3) ∧ V.cell? ⟨Z, 0, none⟩ = some (.int .i64 (r : Int)) ∧ V.cell? ⟨Z, 1, none⟩ = some (.int .i64 (q : Int)) ∧ V.cell? ⟨g, r, none⟩ = some (.slice (some ⟨gr, 0, none⟩) len cr) ∧ V.cell? ⟨gr, q, none⟩ = some (.int .i64 val)) (by kernel_rfl) ?_
            (refine takeH3 (i := 0) (d := 96) (v := ?_) rfl rfl (by kernel_rfl) (by kernel_rfl) (by kernel_rfl) (by kernel_rfl) (fun _ _ _ h => h) ⟨Or.inl ⟨by kernel_rfl, ?_⟩, fun _ => rfl⟩ HS ?_; rotate_left; (focus (rintro wS ⟨s1, s2, s3, s4, s5⟩; go_simp; try (with_reducible rfl))); (simp only [List.setIfInBounds_toArray, List.set_cons_zero, List.set_cons_succ]))
            (refine takeH3 (i := 1) (d := 97) (v := ?_) rfl rfl (by kernel_rfl) (by kernel_rfl) (by kernel_rfl) (by kernel_rfl) (fun _ _ _ h => h) ⟨Or.inl ⟨by kernel_rfl, ?_⟩, fun _ => rfl⟩ HS ?_; rotate_left; (focus (rintro wS ⟨s1, s2, s3, s4, s5⟩; go_simp; try (with_reducible rfl))); (simp only [List.setIfInBounds_toArray, List.set_cons_zero, List.set_cons_succ]))
            (refine takeH3 (i := 2) (d := 98) (v := ?_) rfl rfl (by kernel_rfl) (by kernel_rfl) (by kernel_rfl) (by kernel_rfl) (fun _ _ _ h => h) ⟨Or.inl ⟨by kernel_rfl, ?_⟩, fun _ => rfl⟩ HS ?_; rotate_left; (focus (rintro wS ⟨s1, s2, s3, s4, s5⟩; go_simp; try (with_reducible rfl))); (simp only [List.setIfInBounds_toArray, List.set_cons_zero, List.set_cons_succ]))
            (refine takeH3 (i := 3) (d := 99) (v := ?_) rfl rfl (by kernel_rfl) (by kernel_rfl) (by kernel_rfl) (by kernel_rfl) (fun _ _ _ h => h) ⟨Or.inl ⟨by kernel_rfl, ?_⟩, fun _ => rfl⟩ HS ?_; rotate_left; (focus (rintro wS ⟨s1, s2, s3, s4, s5⟩; go_simp; try (with_reducible rfl))); (simp only [List.setIfInBounds_toArray, List.set_cons_zero, List.set_cons_succ]))
            (refine takeH3 (i := 4) (d := 100) (v := ?_) rfl rfl (by kernel_rfl) (by kernel_rfl) (by kernel_rfl) (by kernel_rfl) (fun _ _ _ h => h) ⟨Or.inl ⟨by kernel_rfl, ?_⟩, fun _ => rfl⟩ HS ?_; rotate_left; (focus (rintro wS ⟨s1, s2, s3, s4, s5⟩; go_simp; try (with_reducible rfl))); (simp only [List.setIfInBounds_toArray, List.set_cons_zero, List.set_cons_succ]))
            (refine takeH3 (i := 5) (d := 101) (v := ?_) rfl rfl (by kernel_rfl) (by kernel_rfl) (by kernel_rfl) (by kernel_rfl) (fun _ _ _ h => h) ⟨Or.inl ⟨by kernel_rfl, ?_⟩, fun _ => rfl⟩ HS ?_; rotate_left; (focus (rintro wS ⟨s1, s2, s3, s4, s5⟩; go_simp; try (with_reducible rfl))); (simp only [List.setIfInBounds_toArray, List.set_cons_zero, List.set_cons_succ]))
            (refine takeH3 (i := 6) (d := 102) (v := ?_) rfl rfl (by kernel_rfl) (by kernel_rfl) (by kernel_rfl) (by kernel_rfl) (fun _ _ _ h => h) ⟨Or.inl ⟨by kernel_rfl, ?_⟩, fun _ => rfl⟩ HS ?_; rotate_left; (focus (rintro wS ⟨s1, s2, s3, s4, s5⟩; go_simp; try (with_reducible rfl))); (simp only [List.setIfInBounds_toArray, List.set_cons_zero, List.set_cons_succ]))
            (refine takeH3 (i := 7) (d := 103) (v := ?_) rfl rfl (by kernel_rfl) (by kernel_rfl) (by kernel_rfl) (by kernel_rfl) (fun _ _ _ h => h) ⟨Or.inl ⟨by kernel_rfl, ?_⟩, fun _ => rfl⟩ HS ?_; rotate_left; (focus (rintro wS ⟨s1, s2, s3, s4, s5⟩; go_simp; try (with_reducible rfl))); (simp only [List.setIfInBounds_toArray, List.set_cons_zero, List.set_cons_succ]))
            (refine takeH3 (i := 8) (d := 104) (v := ?_) rfl rfl (by kernel_rfl) (by kernel_rfl) (by kernel_rfl) (by kernel_rfl) (fun _ _ _ h => h) ⟨Or.inl ⟨by kernel_rfl, ?_⟩, fun _ => rfl⟩ HS ?_; rotate_left; (focus (rintro wS ⟨s1, s2, s3, s4, s5⟩; go_simp; try (with_reducible rfl))); (simp only [List.setIfInBounds_toArray, List.set_cons_zero, List.set_cons_succ]))
            (refine takeH3 (i := 9) (d := 105) (v := ?_) rfl rfl (by kernel_rfl) (by kernel_rfl) (by kernel_rfl) (by kernel_rfl) (fun _ _ _ h => h) ⟨Or.inl ⟨by kernel_rfl, ?_⟩, fun _ => rfl⟩ HS ?_; rotate_left; (focus (rintro wS ⟨s1, s2, s3, s4, s5⟩; go_simp; try (with_reducible rfl))); (simp only [List.setIfInBounds_toArray, List.set_cons_zero, List.set_cons_succ]))
            (refine doneH (by kernel_rfl) ?_ _)
            simp only [Exit.then]
            clear HS
            by_cases hvp : 0 ≤ val
            · obtain ⟨⟨f1, f2⟩, ⟨e1, e2⟩, v1, v2⟩ := HJ2.out.fi.res.facts
              have HVP := Lib.hid hvp
              gi_wp2
              have hd2 : ResI w W2.drew := ⟨HJ2.out.fi.res.r1, HJ2.out.fi.res.r2, HJ2.out.fi.res.b.drew⟩
              refine ⟨((((KeepBook.refl W2).drew).setCell _ _).setCell _ _), ⟨rfl, ?_⟩, hd2.endsB (.slice none 0 0) 70⟩
              rw [HX.out, fillP_append, HF.out]
              show (if rd (rd_L4 m' (P1 + a)) (P2 + b) ≥ 0 then none else _ : Option (List (List Int))) = none
              rw [HRq.out.1, HRq.out.2, if_pos (by rw [HV.out.2]; exact HVP.out)]
            · have hvn : val < 0 := by omega
              have HVN := Lib.hid hvn
              gi_wp2
              clear hval y8 z0 z1 hvn hvp
              have HS : (fun V : World => V.cell? ⟨N, 0, none⟩ = some (.slice (some ⟨g, 0, none⟩) R c3) ∧ V.cell? ⟨Z, 0, none⟩ = some (.int .i64 (r : Int)) ∧ V.cell? ⟨Z, 1, none⟩ = some (.int .i64 (q : Int)) ∧ V.cell? ⟨g, r, none⟩ = some (.slice (some ⟨gr, 0, none⟩) len cr) ∧ V.cell? ⟨T, 0, none⟩ = some (.int .i64 (i : Int))) W2.drew.drew := ⟨BlkIs.cell HJ2.out.fi.bx 0, BlkIs.cell HZb.out 0, BlkIs.cell HZb.out 1, hrow, t0⟩
              have hsz : gr < W2.heap.size := by have := HGR.out; have := HJ2.out.fi.hN; omega
              have HS2 : (fun V : World => V.cell? ⟨N, 0, none⟩ = some (.slice (some ⟨g, 0, none⟩) R c3) ∧ V.cell? ⟨Z, 0, none⟩ = some (.int .i64 (r : Int)) ∧ V.cell? ⟨Z, 1, none⟩ = some (.int .i64 (q : Int)) ∧ V.cell? ⟨g, r, none⟩ = some (.slice (some ⟨gr, 0, none⟩) len cr) ∧ V.cell? ⟨T, 0, none⟩ = some (.int .i64 (i : Int))) (W2.drew.drew.setCell ⟨gr, q, none⟩ (.int .i64 (i : Int))) :=
                ⟨(World.cell?_setCell_far W2.drew.drew ⟨gr, q, none⟩ ⟨N, 0, none⟩ _ HGR.out.2.2.1).trans HS.1, (World.cell?_setCell_far W2.drew.drew ⟨gr, q, none⟩ ⟨Z, 0, none⟩ _ (by show gr ≠ Z; have := HGR.out; omega)).trans HS.2.1, (World.cell?_setCell_far W2.drew.drew ⟨gr, q, none⟩ ⟨Z, 1, none⟩ _ (by show gr ≠ Z; have := HGR.out; omega)).trans HS.2.2.1,
                  (World.cell?_setCell_far W2.drew.drew ⟨gr, q, none⟩ ⟨g, r, none⟩ _ (by show gr ≠ g; exact HGR.out.2.2.2)).trans HS.2.2.2.1, (World.cell?_setCell_far W2.drew.drew ⟨gr, q, none⟩ ⟨T, 0, none⟩ _ (by show gr ≠ T; have := HGR.out; have := HJ2.out.hT.1; omega)).trans HS.2.2.2.2⟩
              clear hrow t0
              refine beginH (fun V : World => V.cell? ⟨N, 0, none⟩ = some (.slice (some ⟨g, 0, none⟩) R c3) ∧ V.cell? ⟨Z, 0, none⟩ = some (.int .i64 (r : Int)) ∧ V.cell? ⟨Z, 1, none⟩ = some (.int .i64 (q : Int)) ∧ V.cell? ⟨g, r, none⟩ = some (.slice (some ⟨gr, 0, none⟩) len cr) ∧ V.cell? ⟨T, 0, none⟩ = some (.int .i64 (i : Int))) (by kernel_rfl) ?_
              (refine takeH3 (i := 0) (d := 106) (v := ?_) rfl rfl (by kernel_rfl) (by kernel_rfl) (by kernel_rfl) (by kernel_rfl) (fun _ _ _ h => h) ⟨Or.inl ⟨by kernel_rfl, ?_⟩, fun _ => rfl⟩ HS ?_; rotate_left; (focus (rintro wS ⟨s1, s2, s3, s4, s5⟩; go_simp; try (with_reducible rfl))); (simp only [List.setIfInBounds_toArray, List.set_cons_zero, List.set_cons_succ]))
              (refine takeH3 (i := 1) (d := 107) (v := ?_) rfl rfl (by kernel_rfl) (by kernel_rfl) (by kernel_rfl) (by kernel_rfl) (fun _ _ _ h => h) ⟨Or.inl ⟨by kernel_rfl, ?_⟩, fun _ => rfl⟩ HS ?_; rotate_left; (focus (rintro wS ⟨s1, s2, s3, s4, s5⟩; go_simp; try (with_reducible rfl))); (simp only [List.setIfInBounds_toArray, List.set_cons_zero, List.set_cons_succ]))
              (refine takeH3 (i := 2) (d := 108) (v := ?_) rfl rfl (by kernel_rfl) (by kernel_rfl) (by kernel_rfl) (by kernel_rfl) (fun _ _ _ h => h) ⟨Or.inl ⟨by kernel_rfl, ?_⟩, fun _ => rfl⟩ HS ?_; rotate_left; (focus (rintro wS ⟨s1, s2, s3, s4, s5⟩; go_simp; try (with_reducible rfl))); (simp only [List.setIfInBounds_toArray, List.set_cons_zero, List.set_cons_succ]))
              (refine takeH3 (i := 3) (d := 109) (v := ?_) rfl rfl (by kernel_rfl) (by kernel_rfl) (by kernel_rfl) (by kernel_rfl) (fun _ _ _ h => h) ⟨Or.inl ⟨by kernel_rfl, ?_⟩, fun _ => rfl⟩ HS ?_; rotate_left; (focus (rintro wS ⟨s1, s2, s3, s4, s5⟩; go_simp; try (with_reducible rfl))); (simp only [List.setIfInBounds_toArray, List.set_cons_zero, List.set_cons_succ]))
              (refine takeH3 (i := 4) (d := 110) (v := ?_) rfl rfl (by kernel_rfl) (by kernel_rfl) (by kernel_rfl) (by kernel_rfl) (fun _ _ _ h => h) ⟨Or.inl ⟨by kernel_rfl, ?_⟩, fun _ => rfl⟩ HS ?_; rotate_left; (focus (rintro wS ⟨s1, s2, s3, s4, s5⟩; go_simp; try (with_reducible rfl))); (simp only [List.setIfInBounds_toArray, List.set_cons_zero, List.set_cons_succ]))
              (refine takeH3 (i := 5) (d := 111) (v := ?_) rfl rfl (by kernel_rfl) (by kernel_rfl) (by kernel_rfl) (by kernel_rfl) (fun _ _ _ h => h) ⟨Or.inl ⟨by kernel_rfl, ?_⟩, fun _ => rfl⟩ HS ?_; rotate_left; (focus (rintro wS ⟨s1, s2, s3, s4, s5⟩; go_simp; try (with_reducible rfl))); (simp only [List.setIfInBounds_toArray, List.set_cons_zero, List.set_cons_succ]))
              (refine takeH3 (i := 6) (d := 112) (v := ?_) rfl rfl (by kernel_rfl) (by kernel_rfl) (by kernel_rfl) (by kernel_rfl) (fun _ _ _ h => h) ⟨Or.inl ⟨by kernel_rfl, ?_⟩, fun _ => rfl⟩ HS ?_; rotate_left; (focus (rintro wS ⟨s1, s2, s3, s4, s5⟩; go_simp; try (with_reducible rfl))); (simp only [List.setIfInBounds_toArray, List.set_cons_zero, List.set_cons_succ]))
              (refine takeH3 (i := 7) (d := 113) (v := ?_) rfl rfl (by kernel_rfl) (by kernel_rfl) (by kernel_rfl) (by kernel_rfl) (fun _ _ _ h => h) ⟨Or.inl ⟨by kernel_rfl, ?_⟩, fun _ => rfl⟩ HS ?_; rotate_left; (focus (rintro wS ⟨s1, s2, s3, s4, s5⟩; go_simp; try (with_reducible rfl))); (simp only [List.setIfInBounds_toArray, List.set_cons_zero, List.set_cons_succ]))
              (refine takeH3 (i := 8) (d := 114) (v := ?_) rfl rfl (by kernel_rfl) (by kernel_rfl) (by kernel_rfl) (by kernel_rfl) (fun _ _ _ h => h) ⟨Or.inl ⟨by kernel_rfl, ?_⟩, fun _ => rfl⟩ HS ?_; rotate_left; (focus (rintro wS ⟨s1, s2, s3, s4, s5⟩; go_simp; try (with_reducible rfl))); (simp only [List.setIfInBounds_toArray, List.set_cons_zero, List.set_cons_succ]))
              have hcell : W2.cell? ⟨gr, q, none⟩ = some (.int .i64 val) := HCV.out
              (refine oneH (i := 9) rfl (by kernel_rfl) (fun K hK => ?_); go_simp)
              (refine hK _ _ ⟨HS2, ?_⟩; clear hK K; (try simp only [Act.put, List.setIfInBounds_toArray, List.set_cons_zero, List.set_cons_succ]))
              (refine doneH (by kernel_rfl) ?_ _)
              have hne : ∀ b, T0 ≤ b → b ≠ gr := fun b hb e => by have := HGR.out; omega
              refine ⟨((((KeepBook.refl W2).drew).drew).setCell _ _), m'.set r ((rd_L4 m' r).set q i), ⟨?_, ?_⟩, ⟨HPut.out 2 i, BlkIs.other (BlkIs.drew (BlkIs.drew HJ2.out.bi)) (p := ⟨gr, q, none⟩) (hne T HJ2.out.hT.1) _, BlkIs.other (BlkIs.drew (BlkIs.drew HJ2.out.bc)) (p := ⟨gr, q, none⟩) (hne X HJ2.out.hT.2) _, HJ2.out.hT⟩⟩
              · rw [fillP_append, HF.out]
                show (if rd (rd_L4 m' (P1 + a)) (P2 + b) ≥ 0 then none else some _ : Option (List (List Int))) = _
                rw [HRq.out.1, HRq.out.2, if_neg (by rw [HV.out.2]; have := HVN.out; omega), Int.toNat_natCast, Int.toNat_natCast]
              · exact HD.out.set r q i
        · have hil : i = l0.length := by omega
          subst hil
          have y8 : W'.cell? ⟨N, 0, none⟩ = some (.slice A3 R c3) := BlkIs.cell HF1.out.bx 0
          obtain ⟨⟨f1, f2⟩, ⟨e1, e2⟩, s1, s2⟩ := HF1.out.res.facts
          rw [List.drop_length] at hm
          have ha : ans = some m := hm.symm
          clear hm
          have HA := Lib.hid ha
          have HDs := Lib.hid hds
          clear ha hds
          go_wp2
          have he := HF1.out.res.ends (.slice A3 R c3) rfl 0
          refine slots_leaves (.slice A3 R c3) 0 rfl rfl he.1 he.2.1 (HDs.out.keep (((KeepBook.refl W').setCell _ _).setCell _ _).to) (fun W2 hs => ⟨_, by rw [HA.out]; rfl, ?_, hs.stab _ (Stab.below (Nat.le_refl _) (Nat.le_refl _)) he.2.2⟩)
          rw [HA.out]
          refine hs.stab (fun V => Kd.S dRow 23 V w.heap.size (fun _ => True) (.slice A3 R c3) (slM (some m))) (fun _ V V' row hV hg hr => S_book hV hg (fun r e => (hr r e).2)) ?_
          exact Kd.S_mono (Kd.S_far (p := ⟨w.heap.size + 1, 0, none⟩) (Kd.S_far (p := ⟨w.heap.size, 0, none⟩) HF1.out.own (fun k hk => by have := hk.1.1; simp; omega) _) (fun k hk => by have := hk.1.1; simp; omega) _) (fun _ _ => trivial)
end Go.Proofs.Ytfoocmmjefdojaa.K
