/- Layer 7: Slots, the rows while they are made. -/
import Derived.Test.YtfoocmmjefdojaaGs2
namespace Go.Proofs.Ytfoocmmjefdojaa.K
open Go.RowKit Go.Proofs.YtfoocmmjefdojaaW.PrintWords Go.Proofs.YtfoocmmjefdojaaW.PrintLast Go.Proofs.YtfoocmmjefdojaaW.PrintMore
set_option linter.unusedVariables false
set_option linter.unusedSimpArgs false
attribute [local go_sem] Oper.semAt_some

theorem rowsIn_of {P : Program} {row : String} {args : Array Value} {w : World} {n : Nat} {R : Value → World → Prop} (h : Rows P row args w R) : RowsIn Fence.wide n P row args w R :=
  fun c cs _ => let ⟨v, w', r, s⟩ := h c cs; ⟨v, w', r, stepsIn_wide.2 s⟩
/-- one operation of a drawn region, by a law of the plain walk -/
theorem opIn_of_wp {P : Program} {o : Oper} {a : Act} {w : World} {K : Act → World → Prop} {Q : Exit → Act → World → Prop} (h : Oper.wp P o a w K Q) : Oper.wpIn Fence.wide 0 P o a w K Q := by
  refine ⟨fun _ _ => trivial, ?_⟩
  unfold Oper.wp at h
  show Oper.uponIn Fence.wide 0 P o a K Q ((execOp a.eval o).run P w)
  generalize (execOp a.eval o).run P w = r at h
  match r, h with
  | .ok (.value v) w', h => exact h
  | .ok .skip w', h => exact h
  | .ok (.defer d) w', h => exact h
  | .ok (.enter f args) w', h => exact ⟨fun h => by simp [Fence.wide] at h, callsIn_wide.2 h⟩
  | .ok (.row row args) w', h => exact ⟨fun h => by simp [Fence.wide] at h, rowsIn_of h⟩
  | .halt (.panic v) w', h => exact h
theorem step_in {P : Program} {ops : Array Oper} {o : Oper} {a : Act} {w : World} {K : Act → World → Prop} {Q : Exit → Act → World → Prop} (hw : Region.wanted o (yielded ops a.tmps) = true)
    (h : if Region.wanted o (yielded ops a.tmps) = true then Oper.wp P o a w K Q else K (a.put o.dst undef) w) : if Region.wanted o (yielded ops a.tmps) = true then Oper.wpIn Fence.wide 0 P o a w K Q else (∀ f, o.about P w a.eval = some f → Fence.wide.fn f) ∧ K (a.put o.dst undef) w := by
  rw [if_pos hw] at h ⊢
  exact opIn_of_wp h

/-- a statement that ends in its order, and in no other way -/
def onlyN (Q : Exit → Act → World → Prop) : Exit → Act → World → Prop
  | .normal, a, w => Q .normal a w
  | _, _, _ => False
theorem wp_onlyN {P : Program} {c : Code} {Q : Exit → Act → World → Prop} {a : Act} {w : World} (h : c.wp P (onlyN Q) a w) : c.wp P Q a w :=
  Code.wp_mono (fun e a w q => by cases e <;> first | exact q | exact q.elim) h

abbrev dRow : Kd (List Int) := Kd.slice 3 (Kd.int .i64)
theorem grownBy_drewN {W w1 : World} {n : Nat} {row : Option Nat} (h : (W.drewN n).grownBy w1 row) : W.grownBy w1 row := ⟨h.os, h.tape, h.output, h.size, h.block⟩
theorem ResI.grown {w W V : World} {row : Option Nat} (h : ResI w W) (hg : W.grownBy V row) (hr : ∀ k, row = some k → w.heap.size + 2 ≤ k) : ResI w V :=
  ⟨(hg.block _ (BlkIs.lt h.r1) (fun e => by have := hr _ e.symm; omega)).trans h.r1, (hg.block _ (BlkIs.lt h.r2) (fun e => by have := hr _ e.symm; omega)).trans h.r2, h.b.grown hg h.b.size (fun k e => by have := hr k e; omega)⟩
theorem ResI.setCell {w W : World} (h : ResI w W) {p : Addr} (hp : w.heap.size + 2 ≤ p.block) (v : Value) : ResI w (W.setCell p v) :=
  ⟨BlkIs.other h.r1 (by omega) v, BlkIs.other h.r2 (by omega) v, h.b.setCell (by omega) v⟩

/-- the rows, held in a box -/
structure RowI (w W : World) (N : Nat) (v : Value) (m : List (List Int)) : Prop where
  res : ResI w W
  bx : BlkIs W N 36 #[v]
  hN : w.heap.size + 2 ≤ N
  own : Kd.S dRow 23 W w.heap.size (fun k => w.heap.size + 2 ≤ k ∧ k ≠ N) v m
theorem RowI.alloc {w W : World} {N : Nat} {v : Value} {m : List (List Int)} (h : RowI w W N v m) (o : Obj) : RowI w (W.alloc o) N v m :=
  ⟨h.res.grown (World.grownBy_alloc W o none) (fun k e => by cases e), BlkIs.alloc h.bx o, h.hN, Kd.S_alloc h.own o⟩
theorem RowI.drewN {w W : World} {N : Nat} {v : Value} {m : List (List Int)} (h : RowI w W N v m) (n : Nat) : RowI w (W.drewN n) N v m :=
  ⟨⟨h.res.r1, h.res.r2, pw_below_drewN h.res.b n⟩, h.bx, h.hN, Kd.S_drewN h.own n⟩

/-- row r may be appended to, and put back -/
theorem RowI.lend {w W : World} {N : Nat} {v : Value} {m : List (List Int)} (h : RowI w W N v m) (r : Nat) (hr : r < m.length) :
    ∃ (g cap : Nat) (A : Option Addr) (cc : Nat) (oki : Nat → Prop), v = .slice (some ⟨g, 0, none⟩) m.length cap ∧ W.cell? ⟨g, r, none⟩ = some (.slice A (rd_L4 m r).length cc) ∧
      Kd.R (Kd.int .i64) 3 W w.heap.size oki (.slice A (rd_L4 m r).length cc) (rd_L4 m r) ∧
      ∀ (n : Nat) (w1 : World) (v1 : Value) (ys : List Int), Kd.R (Kd.int .i64) 3 w1 w.heap.size (fun k => oki k ∨ (w.heap.size + 2 ≤ k ∧ k ≠ N) ∧ W.heap.size ≤ k) v1 ys → (W.drewN n).grownBy w1 (Value.slice A (rd_L4 m r).length cc).ownBlock →
        w1.cell? ⟨g, r, none⟩ = some (.slice A (rd_L4 m r).length cc) ∧ w1.frozen? ⟨g, r, none⟩ = false ∧ w1.cell? ⟨N, 0, none⟩ = some v ∧ N < w1.heap.size ∧ g < w1.heap.size ∧
        RowI w (w1.setCell ⟨g, r, none⟩ v1) N v (m.set r ys) := by
  obtain ⟨g, cap, rfl, hg1, hg2, cells, hcells⟩ := Kd.S_form h.own (by omega)
  have hok := (Kd.S_R h.own).1 g (by simp [Value.ownBlock])
  obtain ⟨oki, c, hcl, hM, hcc, hfr, hoki, hH⟩ := Kd.S_elem h.own [] (r : Int) (by omega) (by omega)
  obtain ⟨ve, rfl, ge⟩ := hM
  obtain ⟨A, cc, rfl⟩ := Kd.R_slice ge
  have hc0 := hcc 0 _ rfl
  have hf0 := hfr 0
  simp only [Int.toNat_natCast, show (dRow).sz = 1 from rfl, Nat.mul_one, Nat.add_zero] at hc0 hf0
  refine ⟨g, cap, A, cc, oki, rfl, hc0, ge, ?_⟩
  intro n w1 v1 ys ho hgw
  have hgw' := grownBy_drewN hgw
  have hrow : ∀ k, (Value.slice A (m.getD (r : Int).toNat []).length cc).ownBlock = some k → oki k := ge.1
  have hne : ∀ k, (Value.slice A (m.getD (r : Int).toNat []).length cc).ownBlock = some k → (w.heap.size + 2 ≤ k ∧ k ≠ N) ∧ k ≠ g := fun k e => hoki k (hrow k e)
  have hg1' : w1.heap[g]? = W.heap[g]? := hgw'.block g hg2 (fun e => (hne g e.symm).2 rfl)
  have hHg := Kd.H_grown (Kd.H_widen hH) hgw' (fun k e => .inl (hrow k e))
  have hseg := Kd.S_seg0 hHg (by omega) (by omega) (seg := [v1]) (j := 0) (show 1 ≤ 1 by decide) (x' := ys) (Kd.M_row ho) (fun _ hk => hk)
  simp only [Int.toNat_natCast, show (dRow).sz = 1 from rfl, Nat.mul_one, Nat.add_zero] at hseg
  have hres := h.res.grown hgw' (fun k e => (hne k e).1.1)
  have hbx : BlkIs w1 N 36 #[.slice (some ⟨g, 0, none⟩) m.length cap] := (hgw'.block N (BlkIs.lt h.bx) (fun e => (hne N e.symm).1.2 rfl)).trans h.bx
  refine ⟨(World.cell?_of_block hg1').trans hc0, (World.frozen?_of_block hg1').trans hf0, BlkIs.cell hbx 0, BlkIs.lt hbx, by have := hgw'.size; omega, ?_⟩
  exact ⟨hres.setCell (p := ⟨g, r, none⟩) hok.1 v1, BlkIs.other hbx (p := ⟨g, r, none⟩) (fun e => hok.2 e.symm) v1, h.hN, hseg.1⟩
end Go.Proofs.Ytfoocmmjefdojaa.K
