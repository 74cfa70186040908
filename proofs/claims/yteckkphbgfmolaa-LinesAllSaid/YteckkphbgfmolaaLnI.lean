/- Layer 8: the iterator over a text's lines. -/
import Derived.Test.YteckkphbgfmolaaLn
import Derived.Test.YteckkphbgfmolaaRangeF
import Derived.Outline
import Derived.IntWalk
import Derived.Test.YteckkphbgfmolaaHeld
import Derived.Deep.RegionWith
import Derived.Stop.RegionWithIn
namespace Go.Proofs.Yteckkphbgfmolaa.K
open Go.RowKit Go.Proofs.YteckkphbgfmolaaW.PrintWords Go.Proofs.YteckkphbgfmolaaW.PrintLast Go.Proofs.YteckkphbgfmolaaW.PrintMore
set_option linter.unusedVariables false
set_option linter.unusedSimpArgs false
attribute [local go_sem] Oper.semAt_some

/-- where a line ends that has got to word t and is w wide -/
def endN (ws : List Int) (blank width : Int) : Nat → Nat → Int → Nat
  | 0, t, w => t
  | k + 1, t, w => match ws[t]? with
    | some x => if [w, blank, x].foldl satAdd 0 > width then t else endN ws blank width k (t + 1) ([w, blank, x].foldl satAdd 0)
    | none => t
def linesN (ws : List Int) (blank width : Int) : Nat → Nat → List (Nat × Nat)
  | 0, f => []
  | k + 1, f => match ws[f]? with
    | some x => (f, endN ws blank width ws.length (f + 1) x) :: linesN ws blank width k (endN ws blank width ws.length (f + 1) x)
    | none => []
theorem endN_bound (ws : List Int) (blank width : Int) : ∀ (k t : Nat) (w : Int), t ≤ ws.length → t ≤ endN ws blank width k t w ∧ endN ws blank width k t w ≤ ws.length
  | 0, t, w, h => ⟨Nat.le_refl _, h⟩
  | k + 1, t, w, h => by
    unfold endN
    cases hx : ws[t]? with
    | none => exact ⟨Nat.le_refl _, h⟩
    | some x =>
      have hlt := (List.getElem?_eq_some_iff.1 hx).1
      dsimp only
      split
      · exact ⟨Nat.le_refl _, h⟩
      · have := endN_bound ws blank width k (t + 1) ([w, blank, x].foldl satAdd 0) (by omega)
        omega
theorem endN_end (ws : List Int) (blank width : Int) : ∀ (k : Nat) (w : Int), endN ws blank width k ws.length w = ws.length
  | 0, w => rfl
  | k + 1, w => by unfold endN; rw [List.getElem?_eq_none (Nat.le_refl _)]
def slotInt : Value → Int | .int _ x => x | _ => 0
theorem slotInt_int (k : IntKind) (x : Int) : slotInt (.int k x) = x := rfl
def lineV (x : Nat × Nat) : Array Value := #[.agg #[.int .i64 (x.1 : Int), .int .i64 (x.2 : Int)]]

theorem own_put {F : Nat → Prop} {w W : World} {p : Nat} (h : KeptS (fun k => ¬ F k) w W) (hp : ¬ F p) (j : Nat) (v : Value) : KeptS (fun k => ¬ F k) w (W.setCell ⟨p, j, none⟩ v) :=
  h.setCell (p := ⟨p, j, none⟩) (fun q _ hq e => hq (fun hF => by have e' : q = p := e; subst e'; exact hp hF)) v
theorem c_three (W : World) (t : TypeId) (a b c : Int) : Kd.C (Kd.int .i64) (W.alloc (.cells #[.int .i64 a, .int .i64 b, .int .i64 c] t)) (some ⟨W.heap.size, 0, none⟩) [a, b, c].length [a, b, c] :=
  ⟨rfl, by simp, fun _ => ⟨_, rfl, fun j p hj => by
    match j, hj with
    | 0, hj => simp at hj; subst hj; exact ⟨[.int .i64 a], rfl, rfl, fun i u hu => by
        obtain rfl : i = 0 := by have := (List.getElem?_eq_some_iff.1 hu).1; simpa using this
        simp at hu; subst hu; simp [Addr.add]⟩
    | 1, hj => simp at hj; subst hj; exact ⟨[.int .i64 b], rfl, rfl, fun i u hu => by
        obtain rfl : i = 0 := by have := (List.getElem?_eq_some_iff.1 hu).1; simpa using this
        simp at hu; subst hu; simp [Addr.add, Kd.int, Kd.scalar]⟩
    | 2, hj => simp at hj; subst hj; exact ⟨[.int .i64 c], rfl, rfl, fun i u hu => by
        obtain rfl : i = 0 := by have := (List.getElem?_eq_some_iff.1 hu).1; simpa using this
        simp at hu; subst hu; simp [Addr.add, Kd.int, Kd.scalar]⟩⟩⟩

set_option maxRecDepth 100000 in
set_option maxHeartbeats 4000000 in
theorem broken1_iter (ws : List Int) (blank width : Int) (B B2 : Nat) (A : Option Addr) (c : Nat) (hc : ws.length ≤ c) (hz : ∀ x ∈ ws, I64 x) (hbl : I64 blank) :
    IterF Try.prog 31 #[.pointer (some ⟨B, 0, none⟩), .pointer (some ⟨B2, 0, none⟩)] lineV (linesN ws blank width ws.length 0)
      (fun W => W.cell? ⟨B, 31, none⟩ = some (.slice A ws.length c) ∧ W.cell? ⟨B, 32, none⟩ = some (.int .i64 blank) ∧ W.cell? ⟨B2, 0, none⟩ = some (.int .i64 width) ∧ Kd.C (Kd.int .i64) W A ws.length ws) := by
  intro lp J Jx F0 W hJ hJx hRd hRx hY h0
  have hbig := (hRd _ _ _ h0).2.2.2.2.2.1
  refine callsIn_wide.1 (callsIn_of_wp (n := 0) Try.func31 rfl trivial ?_ rfl)
  simp only [Try.ntmps31, List.size_toArray, List.length_cons, List.length_nil, Nat.reduceAdd, Nat.reduceSub, Array.replicate_succ, Array.replicate_zero, List.push_toArray, List.append_toArray, List.nil_append, List.cons_append]
  obtain ⟨p, hp⟩ : ∃ p, p = W.heap.size := ⟨_, rfl⟩
  have hAp : ∀ ad, A = some ad → 0 < ws.length → ad.block < p := fun ad hA h1 => by
    obtain ⟨ad', hA', hcells⟩ := (hRd _ _ _ h0).2.2.2.2.2.2 h1
    rw [hA] at hA'; cases hA'
    obtain ⟨cs, hcl, hK, hcell⟩ := hcells 0 _ (List.getElem?_eq_getElem h1)
    obtain rfl : cs = [.int .i64 ws[0]] := hK
    have := World.block_lt_of_cell? W _ (hcell 0 _ rfl)
    rw [hp]
    unfold Addr.add at this
    split at this <;> exact this
  have hBp : B < p := by rw [hp]; exact World.block_lt_of_cell? W _ (hRd _ _ _ h0).2.1
  have hB2p : B2 < p := by rw [hp]; exact World.block_lt_of_cell? W _ (hRd _ _ _ h0).2.2.2.1
  have hJ0 : J [] F0 (W.alloc (.cells #[.int .i64 0, .int .i64 0] 64)) := hJ _ _ _ _ h0 ((KeptS.refl _ _).alloc _)
  have hF0 : ¬ F0 p := fun h => by have := (hRd _ _ _ h0).1 p h; omega
  have HY := Lib.hid hY
  have HAP := Lib.hid hAp
  clear hAp
  have HRd := Lib.hid hRd
  have HJ := Lib.hid hJ
  have HJx := Lib.hid hJx
  have HJ0 := Lib.hid hJ0
  have HZ := Lib.hid hz
  have HB := Lib.hid hbl
  have HC := Lib.hid hc
  clear hY hRd hJ hJx hJ0 hz hbl hc h0 hRx
  gi_wp2
  refine wpIn_wide.2 ?_
  refine wp_scope_jumps2 0 (fun a' A => ∃ (f k : Nat) (pre : List (Nat × Nat)) (F : Nat → Prop) (q0 q1 : Value), f ≤ ws.length ∧ ws.length ≤ f + k ∧ linesN ws blank width ws.length 0 = pre ++ linesN ws blank width k f ∧ J pre F A ∧ ¬ F p ∧ Blk A p 64 #[q0, q1] ∧ ∃ u5 u7 u8 u9 u10 u11 u12 u13 u14 u15 u16 u17 u18 u19 u20 u21 u22 u23 u24 u25 u26 u27 u28 u29 u30 u31 u32 u33 u34 u35 u36 u37 u38 u39 u40 u41 u42 u43 u44 u45 u46 u47 u48 : Value, a' = { tmps := #[.func (.yield lp) #[] #[], .pointer (some ⟨B, 0, none⟩), .pointer (some ⟨B2, 0, none⟩), undef, .pointer (some ⟨p, 0, none⟩), u5, .int .i64 (f : Nat), u7, u8, u9, u10, u11, u12, u13, u14, u15, u16, u17, u18, u19, u20, u21, u22, u23, u24, u25, u26, u27, u28, u29, u30, u31, u32, u33, u34, u35, u36, u37, u38, u39, u40, u41, u42, u43, u44, u45, u46, u47, u48], defers := [] })
    (fun a' _ => ws.length - (slotInt (a'.tmps.getD 6 undef)).toNat) rfl ?_ ?_
  · rintro a' W1 ⟨f, k, pre, F, q0, q1, hf, hk, hl, hJ1, hFp, hb, u5, u7, u8, u9, u10, u11, u12, u13, u14, u15, u16, u17, u18, u19, u20, u21, u22, u23, u24, u25, u26, u27, u28, u29, u30, u31, u32, u33, u34, u35, u36, u37, u38, u39, u40, u41, u42, u43, u44, u45, u46, u47, u48, rfl⟩
    have HP0 := Lib.hid hp
    clear hp
    refine (wpIn_wide (n := 0)).1 ?_
    dsimp only
    have hr := (HRd.out _ _ _ hJ1).2
    have y1 := hr.1
    have HL := Lib.hid hl
    by_cases hlt : f < ws.length
    · obtain ⟨x, hx⟩ : ∃ x, ws[f]? = some x := ⟨_, List.getElem?_eq_getElem hlt⟩
      obtain ⟨k, rfl⟩ : ∃ k', k = k' + 1 := ⟨k - 1, by omega⟩
      obtain ⟨ad, hA, hcells⟩ := hr.2.2.2.2.2 (by omega)
      obtain ⟨cs, hcl, hK, hcell0⟩ := hcells f x hx
      obtain rfl : cs = [.int .i64 x] := hK
      have hcell : W1.cell? (ad.add (f * 1)) = some (.int .i64 x) := hcell0 0 _ rfl
      rw [Nat.mul_one] at hcell
      subst hA
      obtain ⟨E, hE⟩ : ∃ E, E = endN ws blank width ws.length (f + 1) x := ⟨_, rfl⟩
      have hl2 : linesN ws blank width ws.length 0 = pre ++ (f, E) :: linesN ws blank width k E := by rw [hl]; conv => lhs; rw [linesN, hx]; dsimp only; rw [← hE]
      have hEb := endN_bound ws blank width ws.length (f + 1) x (by omega)
      rw [← hE] at hEb
      have HL2 := Lib.hid hl2
      have HE := Lib.hid hE
      have HX := Lib.hid hx
      have c0 : W1.cell? ⟨p, 0, none⟩ = some q0 := Blk.cell hb 0
      have c1 : W1.cell? ⟨p, 1, none⟩ = some q1 := Blk.cell hb 1
      have f0 := Blk.frozen hb 0
      have f1 := Blk.frozen hb 1
      have lp0 := Blk.lt hb
      have hadp : ¬ p = (ad.add f).block := by
        have := HAP.out ad rfl (by omega)
        have h2 : (ad.add f).block = ad.block := by unfold Addr.add; split <;> rfl
        omega
      have e1 : ∀ v v', ((W1.setCell ⟨p, 0, none⟩ v).setCell ⟨p, 1, none⟩ v').cell? (ad.add f) = some (.int .i64 x) := fun v v' =>
        (World.cell?_setCell_far _ ⟨p, 1, none⟩ (ad.add f) v' hadp).trans ((World.cell?_setCell_far _ ⟨p, 0, none⟩ (ad.add f) v hadp).trans hcell)
      have e2 : ∀ v v', ((W1.setCell ⟨p, 0, none⟩ v).setCell ⟨p, 1, none⟩ v').cell? ⟨B, 31, none⟩ = some (.slice (some ad) ws.length c) := fun v v' =>
        (World.cell?_setCell_far _ ⟨p, 1, none⟩ ⟨B, 31, none⟩ v' (by show ¬ p = B; omega)).trans ((World.cell?_setCell_far _ ⟨p, 0, none⟩ ⟨B, 31, none⟩ v (by show ¬ p = B; omega)).trans y1)
      have hltz : (f : Int) < (ws.length : Int) := by omega
      clear hl hE hx hcells hcell0 hcl hl2 hr
      gi_wp2
      gi_region
      simp only [Exit.then]
      have hb2 : Blk ((W1.setCell ⟨p, 0, none⟩ (.int .i64 f)).setCell ⟨p, 1, none⟩ (.int .i64 ((f : Int) + 1))).drew p 64 #[.int .i64 f, .int .i64 ((f + 1 : Nat) : Int)] := Blk.drew (Blk.set' (Blk.set' hb 0 _ rfl) 1 _ (by simp))
      have hJ2 : J pre F ((W1.setCell ⟨p, 0, none⟩ (.int .i64 f)).setCell ⟨p, 1, none⟩ (.int .i64 ((f : Int) + 1))).drew := HJ.out _ _ _ _ hJ1 (own_put (own_put (KeptS.refl _ W1) hFp 0 _) hFp 1 _).drew
      have HB2 := Aside0.mk hb2
      have HJ2 := Aside0.mk hJ2
      clear hb hJ1 hb2 hJ2 e1 e2 c0 c1 f0 f1 lp0 y1 hcell hadp
      generalize ((W1.setCell ⟨p, 0, none⟩ (.int .i64 f)).setCell ⟨p, 1, none⟩ (.int .i64 ((f : Int) + 1))).drew = W2 at HB2 HJ2 ⊢
      gi_wp2
      refine wpIn_label ?_
      rename_i hK
      refine hK _ _ ?_
      clear hK
      gi_wp2
      gi_loopw [5, 6] (fun wd tw wr => ∃ (t : Nat) (w : Int) (kk : Nat), f + 1 ≤ t ∧ t ≤ ws.length ∧ ws.length ≤ t + kk ∧ wd = .int .i64 w ∧ tw = .int .i64 t ∧ Aside0 (I64 w) ∧ Aside0 (endN ws blank width kk t w = E) ∧ Aside0 (J pre F wr) ∧ Aside0 (Blk wr p 64 #[.int .i64 f, .int .i64 t])) (fun _ tw _ => ws.length - (slotInt tw).toNat)
      case atStart => exact ⟨f + 1, x, ws.length, by omega, by omega, by omega, rfl, by simp, ⟨HZ.out x (List.mem_of_getElem? HX.out)⟩, ⟨HE.out.symm⟩, HJ2, HB2⟩
      case round =>
        obtain ⟨t, wd, kk, ht1, ht2, ht3, rfl, rfl, hw64, hend, hJt, hBt⟩ := hrel
        clear HJ2 HB2
        have hr := (HRd.out _ _ _ hJt.out).2
        have y1 := hr.1
        have y2 := hr.2.1
        have y3 := hr.2.2.1
        have c1 : wr.cell? ⟨p, 1, none⟩ = some (.int .i64 t) := Blk.cell hBt.out 1
        have f1 := Blk.frozen hBt.out 1
        have lp0 := Blk.lt hBt.out
        by_cases hlt2 : t < ws.length
        · obtain ⟨z, hz⟩ : ∃ z, ws[t]? = some z := ⟨_, List.getElem?_eq_getElem hlt2⟩
          obtain ⟨kk, rfl⟩ : ∃ k', kk = k' + 1 := ⟨kk - 1, by omega⟩
          obtain ⟨ad', hA', hcells⟩ := hr.2.2.2.2.2 (by omega)
          cases hA'
          obtain ⟨cs, hcl, hK, hcell0⟩ := hcells t z hz
          obtain rfl : cs = [.int .i64 z] := hK
          have hcell : wr.cell? (ad.add (t * 1)) = some (.int .i64 z) := hcell0 0 _ rfl
          rw [Nat.mul_one] at hcell
          have hltz2 : (t : Int) < (ws.length : Int) := by omega
          have hend1 := hend.out
          unfold endN at hend1
          rw [hz] at hend1
          dsimp only at hend1
          obtain ⟨s, hs⟩ : ∃ s, s = [wd, blank, z].foldl satAdd 0 := ⟨_, rfl⟩
          rw [← hs] at hend1
          have hs64 : I64 s := by rw [hs]; exact satAdd_i64 _ _
          have hadd := fun V : World => add_any (some ⟨V.heap.size, 0, none⟩) 3 [wd, blank, z] (V.alloc (.cells #[.int .i64 wd, .int .i64 blank, .int .i64 z] 2)) (c_three V 2 wd blank z) (fun q hq => by
            simp at hq
            rcases hq with rfl | rfl | rfl
            · exact hw64.out
            · exact HB.out
            · exact HZ.out _ (List.mem_of_getElem? hz))
          rw [← hs] at hadd
          have HA := Lib.hid hadd
          have HS64 := Lib.hid hs64
          have HEnd := Lib.hid hend1
          clear hs hz hcells hcell0 hcl hr hadd hs64 hend1
          gi_wp2
          have HS := (⟨y1, y2, hcell⟩ : (fun V : World => V.cell? ⟨B, 31, none⟩ = some (.slice (some ad) ws.length c) ∧ V.cell? ⟨B, 32, none⟩ = some (.int .i64 blank) ∧ V.cell? (ad.add t) = some (.int .i64 z)) wr.drew)
          refine beginH (fun V : World => V.cell? ⟨B, 31, none⟩ = some (.slice (some ad) ws.length c) ∧ V.cell? ⟨B, 32, none⟩ = some (.int .i64 blank) ∧ V.cell? (ad.add t) = some (.int .i64 z)) (by kernel_rfl) ?_
          (refine takeH (i := 0) (v := ?_) rfl (by kernel_rfl) (by kernel_rfl) (by kernel_rfl) (by kernel_rfl) (fun _ _ _ h => h) ⟨Or.inl ⟨by rfl, ?_⟩, fun _ => rfl⟩ HS ?_; rotate_left; focus (rintro wS ⟨s1, s2, s3⟩; go_simp; try (with_reducible rfl)); (try simp only [Act.put, List.setIfInBounds_toArray, List.set_cons_zero, List.set_cons_succ]))
          (refine takeH (i := 1) (v := ?_) rfl (by kernel_rfl) (by kernel_rfl) (by kernel_rfl) (by kernel_rfl) (fun _ _ _ h => h) ⟨Or.inl ⟨by rfl, ?_⟩, fun _ => rfl⟩ HS ?_; rotate_left; focus (rintro wS ⟨s1, s2, s3⟩; go_simp; try (with_reducible rfl)); (try simp only [Act.put, List.setIfInBounds_toArray, List.set_cons_zero, List.set_cons_succ]))
          (refine takeH (i := 2) (v := ?_) rfl (by kernel_rfl) (by kernel_rfl) (by kernel_rfl) (by kernel_rfl) (fun _ _ _ h => h) ⟨Or.inl ⟨by rfl, ?_⟩, fun _ => rfl⟩ HS ?_; rotate_left; focus (rintro wS ⟨s1, s2, s3⟩; go_simp; try (with_reducible rfl)); (try simp only [Act.put, List.setIfInBounds_toArray, List.set_cons_zero, List.set_cons_succ]))
          (refine takeH (i := 3) (v := ?_) rfl (by kernel_rfl) (by kernel_rfl) (by kernel_rfl) (by kernel_rfl) (fun _ _ _ h => h) ⟨Or.inl ⟨by rfl, ?_⟩, fun _ => rfl⟩ HS ?_; rotate_left; focus (rintro wS ⟨s1, s2, s3⟩; go_simp; try (with_reducible rfl)); (try simp only [Act.put, List.setIfInBounds_toArray, List.set_cons_zero, List.set_cons_succ]))
          (refine takeH (i := 4) (v := ?_) rfl (by kernel_rfl) (by kernel_rfl) (by kernel_rfl) (by kernel_rfl) (fun _ _ _ h => h) ⟨Or.inl ⟨by rfl, ?_⟩, fun _ => rfl⟩ HS ?_; rotate_left; focus (rintro wS ⟨s1, s2, s3⟩; go_simp; try (with_reducible rfl)); (try simp only [Act.put, List.setIfInBounds_toArray, List.set_cons_zero, List.set_cons_succ]))
          (refine takeH (i := 5) (v := ?_) rfl (by kernel_rfl) (by kernel_rfl) (by kernel_rfl) (by kernel_rfl) (fun _ _ _ h => h) ⟨Or.inl ⟨by rfl, ?_⟩, fun _ => rfl⟩ HS ?_; rotate_left; focus (rintro wS ⟨s1, s2, s3⟩; go_simp; try (with_reducible rfl)); (try simp only [Act.put, List.setIfInBounds_toArray, List.set_cons_zero, List.set_cons_succ]))
          (refine takeH (i := 6) (v := ?_) rfl (by kernel_rfl) (by kernel_rfl) (by kernel_rfl) (by kernel_rfl) (fun _ _ _ h => h) ⟨Or.inl ⟨by rfl, ?_⟩, fun _ => rfl⟩ HS ?_; rotate_left; focus (rintro wS ⟨s1, s2, s3⟩; go_simp; try (with_reducible rfl)); (try simp only [Act.put, List.setIfInBounds_toArray, List.set_cons_zero, List.set_cons_succ]))
          (refine takeH (i := 7) (v := ?_) rfl (by kernel_rfl) (by kernel_rfl) (by kernel_rfl) (by kernel_rfl) (fun _ _ _ h => h) ⟨Or.inl ⟨by rfl, ?_⟩, fun _ => rfl⟩ HS ?_; rotate_left; focus (rintro wS ⟨s1, s2, s3⟩; go_simp; try (with_reducible rfl)); (try simp only [Act.put, List.setIfInBounds_toArray, List.set_cons_zero, List.set_cons_succ]))
          (refine oneH (i := 8) rfl (by kernel_rfl) (fun K hK => ?_); go_simp)
          have hbel : Below wr.heap.size wr (wr.alloc (.cells #[.int .i64 wd, .int .i64 blank, .int .i64 z] 2)) := (Below.refl _ wr).alloc (Nat.le_refl _) _
          have HS8 := (⟨(hbel.cell (World.block_lt_of_cell? wr _ y1)).trans y1, (hbel.cell (World.block_lt_of_cell? wr _ y2)).trans y2, (hbel.cell (World.block_lt_of_cell? wr _ hcell)).trans hcell⟩ : (fun V : World => V.cell? ⟨B, 31, none⟩ = some (.slice (some ad) ws.length c) ∧ V.cell? ⟨B, 32, none⟩ = some (.int .i64 blank) ∧ V.cell? (ad.add t) = some (.int .i64 z)) (wr.alloc (.cells #[.int .i64 wd, .int .i64 blank, .int .i64 z] 2)).drew)
          (refine hK _ _ ⟨HS8, ?_⟩; clear hK K; (try simp only [Act.put, List.setIfInBounds_toArray, List.set_cons_zero, List.set_cons_succ]))
          (refine oneH (i := 9) rfl (by kernel_rfl) (fun K hK => ?_); go_simp)
          refine (callsIn_wide.2 (HA.out wr.drew)).mono ?_
          rintro e w8 ⟨rfl, rfl⟩
          dsimp only
          (refine hK _ _ ⟨HS8, ?_⟩; clear hK K; (try simp only [Act.put, List.setIfInBounds_toArray, List.set_cons_zero, List.set_cons_succ]))
          (refine oneH (i := 10) rfl (by kernel_rfl) (fun K hK => ?_); go_simp)
          (refine hK _ _ ⟨HS8, ?_⟩; clear hK K; (try simp only [Act.put, List.setIfInBounds_toArray, List.set_cons_zero, List.set_cons_succ]))
          (refine doneH (by kernel_rfl) ?_ _)
          simp only [Exit.then]
          have HB8 : Aside0 (Blk (wr.alloc (.cells #[.int .i64 wd, .int .i64 blank, .int .i64 z] 2)).drew p 64 #[.int .i64 f, .int .i64 t]) := ⟨Blk.drew (Blk.alloc hBt.out _)⟩
          have HJ8 : Aside0 (J pre F (wr.alloc (.cells #[.int .i64 wd, .int .i64 blank, .int .i64 z] 2)).drew) := ⟨HJ.out _ _ _ _ hJt.out ((KeptS.refl _ wr).alloc _).drew⟩
          have y38 : (wr.alloc (.cells #[.int .i64 wd, .int .i64 blank, .int .i64 z] 2)).drew.cell? ⟨B2, 0, none⟩ = some (.int .i64 width) := (hbel.cell (World.block_lt_of_cell? wr _ y3)).trans y3
          clear HS HS8 hbel hBt hJt y1 y2 y3 c1 f1 lp0 hcell
          generalize (wr.alloc (.cells #[.int .i64 wd, .int .i64 blank, .int .i64 z] 2)).drew = W8 at HB8 HJ8 y38 ⊢
          have c1 : W8.cell? ⟨p, 1, none⟩ = some (.int .i64 t) := Blk.cell HB8.out 1
          have f1 := Blk.frozen HB8.out 1
          have lp0 := Blk.lt HB8.out
          by_cases hbig2 : width < s
          · have hE2 := HEnd.out
            rw [if_pos hbig2] at hE2
            subst hE2
            have c0 : W8.cell? ⟨p, 0, none⟩ = some (.int .i64 f) := Blk.cell HB8.out 0
            obtain ⟨fn, tm, asg, body, hy, hR⟩ := HY.out pre (f, t) (linesN ws blank width k t) F W8 HL2.out HJ8.out
            have HR := Lib.hid hR
            clear hR
            dsimp only [lineV] at hy
            gi_wp2
            refine HR.out.mono ?_
            rintro e W9 ⟨hk9, F', hF', ⟨rfl, hJ9⟩ | ⟨rfl, hJ9⟩⟩
            · have hFp9 : ¬ F' p := fun h => (hF' p h).elim hFp (fun h => by omega)
              have hb9 := hk9.blk HB8.out hFp
              gi_wp2
              refine wpIn_goto ?_
              exact ⟨rfl, ⟨t, k, pre ++ [(f, t)], F', _, _, by omega, by omega, by rw [HL2.out]; simp, hJ9, hFp9, hb9, _, _, _, _, _, _, _, _, _, _, _, _, _, _, _, _, _, _, _, _, _, _, _, _, _, _, _, _, _, _, _, _, _, _, _, _, _, _, _, _, _, _, _, rfl⟩, by simp [slotInt]; omega⟩
            · gi_wp2
              simp only [Exit.jump]
              refine bodyPost_end (results_none rfl _ _ _) rfl ?_
              exact ⟨⟨_, rfl⟩, F', .inr ⟨pre, (f, t), _, HL2.out, hJ9⟩⟩
          · have hE2 := HEnd.out
            rw [if_neg hbig2] at hE2
            have HE2 := Lib.hid hE2
            clear hE2
            gi_wp2
            go_roundw
            case rel => exact ⟨t + 1, by omega, by omega, s, kk, by omega, rfl, by simp, ⟨HS64.out⟩, ⟨HE2.out⟩, ⟨HJ.out _ _ _ _ HJ8.out (own_put (KeptS.refl _ _) hFp 1 _)⟩, ⟨Blk.set' HB8.out 1 _ (by simp)⟩⟩
            case measure => simp [slotInt]; omega
        · obtain rfl : t = ws.length := by omega
          have hE2 := hend.out
          rw [endN_end] at hE2
          subst hE2
          have c0 : wr.cell? ⟨p, 0, none⟩ = some (.int .i64 f) := Blk.cell hBt.out 0
          obtain ⟨fn, tm, asg, body, hy, hR⟩ := HY.out pre (f, ws.length) (linesN ws blank width k ws.length) F wr HL2.out hJt.out
          have HR := Lib.hid hR
          clear hR
          dsimp only [lineV] at hy
          gi_wp2
          refine HR.out.mono ?_
          rintro e W9 ⟨hk9, F', hF', ⟨rfl, hJ9⟩ | ⟨rfl, hJ9⟩⟩
          · have hFp9 : ¬ F' p := fun h => (hF' p h).elim hFp (fun h => by omega)
            have hb9 := hk9.blk hBt.out hFp
            gi_wp2
            refine wpIn_goto ?_
            exact ⟨rfl, ⟨ws.length, k, pre ++ [(f, ws.length)], F', _, _, by omega, by omega, by rw [HL2.out]; simp, hJ9, hFp9, hb9, _, _, _, _, _, _, _, _, _, _, _, _, _, _, _, _, _, _, _, _, _, _, _, _, _, _, _, _, _, _, _, _, _, _, _, _, _, _, _, _, _, _, _, rfl⟩, by simp [slotInt]; omega⟩
          · gi_wp2
            simp only [Exit.jump]
            refine bodyPost_end (results_none rfl _ _ _) rfl ?_
            exact ⟨⟨_, rfl⟩, F', .inr ⟨pre, (f, ws.length), _, HL2.out, hJ9⟩⟩
    · obtain rfl : f = ws.length := by omega
      have hnil : linesN ws blank width k ws.length = [] := by
        cases k with
        | zero => rfl
        | succ k => unfold linesN; rw [List.getElem?_eq_none (by omega)]
      have HN := Lib.hid hnil
      clear hl hnil
      gi_wp2
      simp only [Exit.jump]
      refine bodyPost_ret (results_none rfl _ _ _) rfl ?_
      exact ⟨⟨_, rfl⟩, F, .inl (by rw [HL.out, HN.out, List.append_nil]; exact hJ1)⟩
  · intro pass
    have HP := Lib.hid pass
    clear pass
    go_wp2
    rw [← hp]
    go_step3
    rename_i hK
    exact hK _ _ (HP.out _ _ ⟨0, ws.length, [], F0, _, _, by omega, by omega, rfl, HJ0.out, hF0, (by rw [hp]; exact World.alloc_heap_new W _), _, _, _, _, _, _, _, _, _, _, _, _, _, _, _, _, _, _, _, _, _, _, _, _, _, _, _, _, _, _, _, _, _, _, _, _, _, _, _, _, _, _, _, rfl⟩)
end Go.Proofs.Yteckkphbgfmolaa.K
