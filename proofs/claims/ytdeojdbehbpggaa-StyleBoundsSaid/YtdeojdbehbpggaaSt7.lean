/- Layer 3: what is around a box. -/
import Derived.Test.YtdeojdbehbpggaaProg
import Derived.Test.YtdeojdbehbpggaaDefs
import Derived.Test.YtdeojdbehbpggaaRange
import Derived.Test.YtdeojdbehbpggaaSt1
import Derived.Test.YtdeojdbehbpggaaFix
import Derived.Test.YtdeojdbehbpggaaSt2
import Derived.Test.YtdeojdbehbpggaaHeld
import Derived.WalkKit
import Derived.LoopTactic
import Derived.Outline
import Derived.Lib.Hide
import Derived.Handy
import Derived.Deep.DeepCutAuto
import Derived.Deep.RegionHeld3
import Derived.Deep.RegionWith
import Derived.Stop.RegionWithIn
namespace Go.Proofs.Ytdeojdbehbpggaa
open Go.RowKit
set_option linter.unusedVariables false
set_option linter.unusedSimpArgs false
attribute [local go_sem] Oper.semAt_some

def aroundI (b : Bool) (x : Int × Ln) : Int := if b then satAdd x.1 x.2.w else x.1
def frameL (s : Sty) (b : Bool) : List Int := s.sides.map (aroundI b)
/-- four numbers, the last ones 0 -/
def four (l : List Int) : Array Value := #[.int .i64 (l.getD 0 0), .int .i64 (l.getD 1 0), .int .i64 (l.getD 2 0), .int .i64 (l.getD 3 0)]
def Sty.sok (s : Sty) : Prop := ∀ x ∈ s.sides, I64 x.1 ∧ I64 x.2.w

theorem Blk.eq {w : World} {b : Nat} {t : TypeId} {cs cs' : Array Value} (h : Blk w b t cs) (e : cs = cs') : Blk w b t cs' := e ▸ h
theorem StyAt.drew {b o : Nat} {s : Sty} {w : World} (h : StyAt b o s w) : StyAt b o s w.drew := h
theorem Ints.drew {w : World} {v : Value} {zs : List Int} (h : Ints w v zs) : Ints w.drew v zs := h
theorem satAdd_zero {a : Int} (h : I64 a) : satAdd 0 a = a := by unfold I64 at h; unfold satAdd; rw [if_neg (by omega), if_neg (by omega)]; omega

set_option maxRecDepth 100000 in
set_option maxHeartbeats 4000000 in
theorem frame_any (s : Sty) (bd : Bool) (w : World) (hok : s.sok) :
    Calls Try.prog 15 #[.agg s.cells, .bool bd] w fun e w' => e = .returned (.agg (four (frameL s bd))) ∧ Below w.heap.size w w' := by
  have HOK := Lib.hid hok
  clear hok
  generalize hV0 : s.cells = V0
  refine calls_of_wp_marks Try.func15 rfl ?_; simp only [Try.ntmps15, List.size_toArray, List.length_cons, List.length_nil, Nat.reduceAdd, Nat.reduceSub, Array.replicate_succ, Array.replicate_zero, List.push_toArray, List.append_toArray, List.nil_append, List.cons_append]
  subst hV0
  go_upto_region 3 with (fail)
  have b0 := ((((Blk.new w 31 s.cells).alloc (.cells #[.bool bd] 4)).alloc (.cells (four []) 24)).alloc (.cells (four []) 24)).alloc (.cells #[.int .i64 0] 3)
  have b1 := (((Blk.new (w.alloc (.cells s.cells 31)) 4 #[.bool bd]).alloc (.cells (four []) 24)).alloc (.cells (four []) 24)).alloc (.cells #[.int .i64 0] 3)
  have b2 := ((Blk.new ((w.alloc (.cells s.cells 31)).alloc (.cells #[.bool bd] 4)) 24 (four [])).alloc (.cells (four []) 24)).alloc (.cells #[.int .i64 0] 3)
  have b3 := (Blk.new (((w.alloc (.cells s.cells 31)).alloc (.cells #[.bool bd] 4)).alloc (.cells (four []) 24)) 24 (four [])).alloc (.cells #[.int .i64 0] 3)
  have b4 := Blk.new ((((w.alloc (.cells s.cells 31)).alloc (.cells #[.bool bd] 4)).alloc (.cells (four []) 24)).alloc (.cells (four []) 24)) 3 #[.int .i64 0]
  simp only [World.size_alloc] at b1 b2 b3 b4
  have hB0 : Below w.heap.size w (((((w.alloc (.cells s.cells 31)).alloc (.cells #[.bool bd] 4)).alloc (.cells (four []) 24)).alloc (.cells (four []) 24)).alloc (.cells #[.int .i64 0] 3)) := by go_grown
  show Code.wp _ _ _ _ (((((w.alloc (.cells s.cells 31)).alloc (.cells #[.bool bd] 4)).alloc (.cells (four []) 24)).alloc (.cells (four []) 24)).alloc (.cells #[.int .i64 0] 3))
  generalize (((((w.alloc (.cells s.cells 31)).alloc (.cells #[.bool bd] 4)).alloc (.cells (four []) 24)).alloc (.cells (four []) 24)).alloc (.cells #[.int .i64 0] 3)) = W0 at b0 b1 b2 b3 b4 hB0 ⊢
  generalize Value.agg s.cells = V0
  have hR := b0.range
  have hl := b4.lt
  go_wp2_with (first | (refine wpList_load_mid rfl 31 _ rfl _ _ rfl _ _ hR Try.underlying31 rfl (by kernel_rfl) ?_) | (go_at_call 24; refine (sides_any _ _).mono ?_; rintro e w' ⟨rfl, rfl⟩))
  refine wp_range_plain (sides1_iter s W0.heap.size) (enters_of Try.func31 (by kernel_rfl) rfl) rfl (fun _ => rfl)
    (fun pre W => Blk W (w.heap.size + 1) 4 #[.bool bd] ∧ Blk W (w.heap.size + 1 + 1) 24 (four []) ∧ Blk W (w.heap.size + 1 + 1 + 1) 24 (four (pre.map (aroundI bd))) ∧ Blk W (w.heap.size + 1 + 1 + 1 + 1) 3 #[.int .i64 pre.length] ∧ StyAt W0.heap.size 0 s W ∧ Below w.heap.size w W)
    (fun c W => False)
    (Stab.and (Stab.blk _ _ _) (Stab.and (Stab.blk _ _ _) (Stab.and (Stab.blk _ _ _) (Stab.and (Stab.blk _ _ _) (Stab.and (Stab.sty _ _ _) (Stab.below (Nat.le_refl _) (by simp; omega)))))))
    (Stab.pure _ _) (fun pre A h => h.2.2.2.2.1) ⟨b1.alloc _, b2.alloc _, b3.alloc _, b4.alloc _, styAt_new s W0 _, hB0.alloc (by omega) _⟩ ?round ?done ?stop
  case stop => rintro D c W hD h; exact h.elim
  case done =>
    rintro D W hD ⟨d1, d2, d3, d4, d5, d6⟩ hbook hd
    have d3 : Blk W (w.heap.size + 1 + 1 + 1) 24 (four (frameL s bd)) := d3
    obtain ⟨xs, hxs⟩ : ∃ xs, frameL s bd = xs := ⟨_, rfl⟩
    rw [hxs] at d3
    have HX := Lib.hid hxs
    clear hxs
    have c0 : W.cell? ⟨w.heap.size + 1 + 1 + 1, 0, none⟩ = some (.int .i64 (xs.getD 0 0)) := d3.cell 0
    have c1 : W.cell? ⟨w.heap.size + 1 + 1 + 1, 1, none⟩ = some (.int .i64 (xs.getD 1 0)) := d3.cell 1
    have c2 : W.cell? ⟨w.heap.size + 1 + 1 + 1, 2, none⟩ = some (.int .i64 (xs.getD 2 0)) := d3.cell 2
    have c3 : W.cell? ⟨w.heap.size + 1 + 1 + 1, 3, none⟩ = some (.int .i64 (xs.getD 3 0)) := d3.cell 3
    generalize hy0 : xs.getD 0 0 = y0 at c0
    generalize hy1 : xs.getD 1 0 = y1 at c1
    generalize hy2 : xs.getD 2 0 = y2 at c2
    generalize hy3 : xs.getD 3 0 = y3 at c3
    have e0 : W.cell? ⟨w.heap.size + 1 + 1, 0, none⟩ = some (.int .i64 0) := d2.cell 0
    have e1 : W.cell? ⟨w.heap.size + 1 + 1, 1, none⟩ = some (.int .i64 0) := d2.cell 1
    have e2 : W.cell? ⟨w.heap.size + 1 + 1, 2, none⟩ = some (.int .i64 0) := d2.cell 2
    have e3 : W.cell? ⟨w.heap.size + 1 + 1, 3, none⟩ = some (.int .i64 0) := d2.cell 3
    have f0 := d2.frozen 0
    have f1 := d2.frozen 1
    have f2 := d2.frozen 2
    have f3 := d2.frozen 3
    have hF : four xs = #[.int .i64 y0, .int .i64 y1, .int .i64 y2, .int .i64 y3] := by unfold four; rw [hy0, hy1, hy2, hy3]
    have HF := Lib.hid hF
    have D2 := Lib.hid d2
    have HD := Lib.hid hd
    clear hF d1 d2 d3 d4 d5 hd b0 b1 b2 b3 b4 hR hy0 hy1 hy2 hy3 hbook
    go_wp2
    refine leaves_marks (v := .agg (four xs)) (B := w.heap.size) ⟨[D], rfl, by simp, ?_⟩ (fun W' hs => ⟨?_, by rw [HX.out], ?_⟩)
    · intro E hE
      obtain rfl := List.mem_singleton.1 hE
      exact ⟨by simp at hD; omega, ((((((KeepBook.refl W).setCell _ _).setCell _ _).setCell _ _).setCell _ _).same _ _ HD.out rfl)⟩
    · rw [HF.out]
      exact results_cell_mid Try.results15 _ _ (w.heap.size + 1 + 1) 0 [.int .i64 y0, .int .i64 y1, .int .i64 y2, .int .i64 y3] _ rfl
        (hs.blk ((((D2.out.set 0 _).set 1 _).set 2 _).set' (cs' := #[.int .i64 y0, .int .i64 y1, .int .i64 y2, .int .i64 y3]) 3 _ (by simp [four]))).range Try.underlying24 rfl (by kernel_rfl)
    · exact hs.below (by go_grown) (Nat.le_refl _) (Nat.le_refl _)
  case round =>
    rintro l pre ⟨p, ln⟩ rest W hx hl2 ⟨d1, d2, d3, d4, d5, d6⟩
    have hpl : I64 p ∧ I64 ln.w := HOK.out (p, ln) (by rw [hx]; simp)
    obtain ⟨hp, hlw⟩ := hpl
    have HP := Lib.hid hp
    have HLW := Lib.hid hlw
    dsimp only [sideV]
    clear hR b0 b1 b2 b3 b4 hp hlw
    gi_wp2
    refine ⟨by (repeat (first | (with_reducible exact KeepBook.refl _) | (with_reducible refine KeepBook.alloc ?_ _) | (with_reducible refine KeepBook.setCell ?_ _ _) | (with_reducible refine KeepBook.drew ?_) | (refine KeepBook.below ?_ (by assumption)))), ?_⟩
    rintro W2 hs _
    have hln := rangeAt_same (rangeAt_new W #[.int .i64 ln.s, .int .i64 ln.w, .int .u32 ln.c] 27) hs.cell
    have l1 : W2.cell? ⟨W.heap.size, 1, none⟩ = some (.int .i64 ln.w) := by simpa using hln 1 _ rfl
    have hlW : W.heap.size < W2.heap.size := by rw [hs.size]; simp
    have g1 := hs.blk (d1.alloc _)
    have g2 := hs.blk (d2.alloc _)
    have g3 := hs.blk (d3.alloc _)
    have g4 := hs.blk (d4.alloc _)
    have g5 := hs.sty (d5.alloc _)
    have g6 := hs.below (d6.alloc (by have := d6.size; omega) _) (Nat.le_refl _) (by simp; omega)
    have hNW := d4.lt
    clear d1 d2 d3 d4 d5 d6 hs hln hl2
    have hb : W2.cell? ⟨w.heap.size + 1, 0, none⟩ = some (.bool bd) := g1.cell 0
    have hi : W2.cell? ⟨w.heap.size + 1 + 1 + 1 + 1, 0, none⟩ = some (.int .i64 pre.length) := g4.cell 0
    have hf4 := g4.frozen 0
    have hlt1 := g1.lt
    have hlt3 := g3.lt
    have hlt4 := g4.lt
    have G3 := Lib.hid g3
    have G4 := Lib.hid g4
    have HX := Lib.hid hx
    clear hx
    obtain ⟨W2x, hW2x⟩ : ∃ n : Nat, W.heap.size = n := ⟨_, rfl⟩
    rw [hW2x] at l1 hlW hNW ⊢
    clear hW2x
    rcases pre with _ | ⟨a, _ | ⟨b, _ | ⟨c, _ | ⟨d, t⟩⟩⟩⟩
    · have e0 : W2.cell? ⟨w.heap.size + 1 + 1 + 1, 0, none⟩ = some (.int .i64 0) := g3.cell 0
      have f0 := g3.frozen 0
      clear g3 g4
      cases bd
      · gi_wp2
        exact ⟨by (repeat (first | (with_reducible exact KeepBook.refl _) | (with_reducible refine KeepBook.alloc ?_ _) | (with_reducible refine KeepBook.setCell ?_ _ _) | (with_reducible refine KeepBook.drew ?_) | (refine KeepBook.below ?_ (by assumption)))), (g1.other (by simp) _).other (by simp) _, (g2.other (by simp) _).other (by simp) _, (G3.out.set' 0 _ (by simp [four, aroundI])).other (by simp) _, (G4.out.other (by simp) _).set' 0 _ (by simp), (g5.setCell (by simp; omega) _).setCell (by simp; omega) _, by go_grown⟩
      · gi_wp2
        have hi' : W2.cell? ⟨w.heap.size + 1 + 1 + 1 + 1, 0, none⟩ = some (.int .i64 0) := hi
        have HS : (fun W => W.cell? ⟨w.heap.size + 1 + 1 + 1 + 1, 0, none⟩ = some (.int .i64 0) ∧ W.cell? ⟨W2x, 1, none⟩ = some (.int .i64 ln.w)) (W2.setCell ⟨w.heap.size + 1 + 1 + 1, 0, none⟩ (.int .i64 p)).drew := by constructor <;> go_simp
        refine beginH (fun W => W.cell? ⟨w.heap.size + 1 + 1 + 1 + 1, 0, none⟩ = some (.int .i64 0) ∧ W.cell? ⟨W2x, 1, none⟩ = some (.int .i64 ln.w)) (by kernel_rfl) ?_
        (refine takeH (i := 0) (v := ?_) rfl (by kernel_rfl) (by kernel_rfl) (by kernel_rfl) (by kernel_rfl) (fun _ _ _ h => h) ⟨Or.inl ⟨by rfl, ?_⟩, fun _ => rfl⟩ HS ?_; rotate_left; focus (rintro wS ⟨s1, s2⟩; go_simp; try (with_reducible rfl)); (try simp only [Act.put, List.setIfInBounds_toArray, List.set_cons_zero, List.set_cons_succ]))
        (refine takeH (i := 1) (v := ?_) rfl (by kernel_rfl) (by kernel_rfl) (by kernel_rfl) (by kernel_rfl) (fun _ _ _ h => h) ⟨Or.inl ⟨by rfl, ?_⟩, fun _ => rfl⟩ HS ?_; rotate_left; focus (rintro wS ⟨s1, s2⟩; go_simp; try (with_reducible rfl)); (try simp only [Act.put, List.setIfInBounds_toArray, List.set_cons_zero, List.set_cons_succ]))
        (refine takeH (i := 2) (v := ?_) rfl (by kernel_rfl) (by kernel_rfl) (by kernel_rfl) (by kernel_rfl) (fun _ _ _ h => h) ⟨Or.inl ⟨by rfl, ?_⟩, fun _ => rfl⟩ HS ?_; rotate_left; focus (rintro wS ⟨s1, s2⟩; go_simp; try (with_reducible rfl)); (try simp only [Act.put, List.setIfInBounds_toArray, List.set_cons_zero, List.set_cons_succ]))
        (refine takeH (i := 3) (v := ?_) rfl (by kernel_rfl) (by kernel_rfl) (by kernel_rfl) (by kernel_rfl) (fun _ _ _ h => h) ⟨Or.inl ⟨by rfl, ?_⟩, fun _ => rfl⟩ HS ?_; rotate_left; focus (rintro wS ⟨s1, s2⟩; go_simp; try (with_reducible rfl)); (try simp only [Act.put, List.setIfInBounds_toArray, List.set_cons_zero, List.set_cons_succ]))
        (refine oneH (i := 4) rfl (by kernel_rfl) (fun K hK => ?_); go_simp)
        (refine hK _ _ ⟨by constructor <;> go_simp, ?_⟩; clear hK K; (try simp only [Act.put, List.setIfInBounds_toArray, List.set_cons_zero, List.set_cons_succ]))
        (refine oneH (i := 5) rfl (by kernel_rfl) (fun K hK => ?_); go_simp)
        (with_reducible refine (CallsIn.inRound _ (callsIn_wide.2 (add_any (.slice _ 2 2) _ _ (ints_two _ p ln.w _ _ (by simp)).drew ?_))).mono ?_)
        · intro z hz
          rcases List.mem_cons.1 hz with rfl | hz
          · exact HP.out
          rcases List.mem_cons.1 hz with rfl | hz
          · exact HLW.out
          cases hz
        rintro e w' ⟨rfl, rfl⟩
        dsimp only
        (refine hK _ _ ⟨by constructor <;> go_simp, ?_⟩; clear hK K; (try simp only [Act.put, List.setIfInBounds_toArray, List.set_cons_zero, List.set_cons_succ]))
        (refine oneH (i := 6) rfl (by kernel_rfl) (fun K hK => ?_); go_simp)
        (refine hK _ _ ⟨by constructor <;> go_simp, ?_⟩; clear hK K; (try simp only [Act.put, List.setIfInBounds_toArray, List.set_cons_zero, List.set_cons_succ]))
        (refine oneH (i := 7) rfl (by kernel_rfl) (fun K hK => ?_); go_simp)
        (refine hK _ _ ⟨by constructor <;> go_simp, ?_⟩; clear hK K; (try simp only [Act.put, List.setIfInBounds_toArray, List.set_cons_zero, List.set_cons_succ]))
        (refine doneH (by kernel_rfl) ?_ _)
        gi_wp2
        exact ⟨by (repeat (first | (with_reducible exact KeepBook.refl _) | (with_reducible refine KeepBook.alloc ?_ _) | (with_reducible refine KeepBook.setCell ?_ _ _) | (with_reducible refine KeepBook.drew ?_) | (refine KeepBook.below ?_ (by assumption)))), (((((g1.other (by simp) _).other (by simp) _).other (by simp) _).alloc _)).drew, (((((g2.other (by simp) _).other (by simp) _).other (by simp) _).alloc _)).drew, (((((G3.out.set 0 _).set' 0 _ (by simp [four, aroundI, satAdd_zero HP.out])).other (by simp) _).alloc _)).drew, (((((G4.out.other (by simp) _).other (by simp) _).set' 0 _ (by simp)).alloc _)).drew, (((((g5.setCell (by simp; omega) _).setCell (by simp; omega) _).setCell (by simp; omega) _).alloc _)).drew, by go_grown⟩
    · have e0 : W2.cell? ⟨w.heap.size + 1 + 1 + 1, 1, none⟩ = some (.int .i64 0) := g3.cell 1
      have f0 := g3.frozen 1
      clear g3 g4
      cases bd
      · gi_wp2
        exact ⟨by (repeat (first | (with_reducible exact KeepBook.refl _) | (with_reducible refine KeepBook.alloc ?_ _) | (with_reducible refine KeepBook.setCell ?_ _ _) | (with_reducible refine KeepBook.drew ?_) | (refine KeepBook.below ?_ (by assumption)))), (g1.other (by simp) _).other (by simp) _, (g2.other (by simp) _).other (by simp) _, (G3.out.set' 1 _ (by simp [four, aroundI])).other (by simp) _, (G4.out.other (by simp) _).set' 0 _ (by simp), (g5.setCell (by simp; omega) _).setCell (by simp; omega) _, by go_grown⟩
      · gi_wp2
        have hi' : W2.cell? ⟨w.heap.size + 1 + 1 + 1 + 1, 0, none⟩ = some (.int .i64 1) := hi
        have HS : (fun W => W.cell? ⟨w.heap.size + 1 + 1 + 1 + 1, 0, none⟩ = some (.int .i64 1) ∧ W.cell? ⟨W2x, 1, none⟩ = some (.int .i64 ln.w)) (W2.setCell ⟨w.heap.size + 1 + 1 + 1, 1, none⟩ (.int .i64 p)).drew := by constructor <;> go_simp
        refine beginH (fun W => W.cell? ⟨w.heap.size + 1 + 1 + 1 + 1, 0, none⟩ = some (.int .i64 1) ∧ W.cell? ⟨W2x, 1, none⟩ = some (.int .i64 ln.w)) (by kernel_rfl) ?_
        (refine takeH (i := 0) (v := ?_) rfl (by kernel_rfl) (by kernel_rfl) (by kernel_rfl) (by kernel_rfl) (fun _ _ _ h => h) ⟨Or.inl ⟨by rfl, ?_⟩, fun _ => rfl⟩ HS ?_; rotate_left; focus (rintro wS ⟨s1, s2⟩; go_simp; try (with_reducible rfl)); (try simp only [Act.put, List.setIfInBounds_toArray, List.set_cons_zero, List.set_cons_succ]))
        (refine takeH (i := 1) (v := ?_) rfl (by kernel_rfl) (by kernel_rfl) (by kernel_rfl) (by kernel_rfl) (fun _ _ _ h => h) ⟨Or.inl ⟨by rfl, ?_⟩, fun _ => rfl⟩ HS ?_; rotate_left; focus (rintro wS ⟨s1, s2⟩; go_simp; try (with_reducible rfl)); (try simp only [Act.put, List.setIfInBounds_toArray, List.set_cons_zero, List.set_cons_succ]))
        (refine takeH (i := 2) (v := ?_) rfl (by kernel_rfl) (by kernel_rfl) (by kernel_rfl) (by kernel_rfl) (fun _ _ _ h => h) ⟨Or.inl ⟨by rfl, ?_⟩, fun _ => rfl⟩ HS ?_; rotate_left; focus (rintro wS ⟨s1, s2⟩; go_simp; try (with_reducible rfl)); (try simp only [Act.put, List.setIfInBounds_toArray, List.set_cons_zero, List.set_cons_succ]))
        (refine takeH (i := 3) (v := ?_) rfl (by kernel_rfl) (by kernel_rfl) (by kernel_rfl) (by kernel_rfl) (fun _ _ _ h => h) ⟨Or.inl ⟨by rfl, ?_⟩, fun _ => rfl⟩ HS ?_; rotate_left; focus (rintro wS ⟨s1, s2⟩; go_simp; try (with_reducible rfl)); (try simp only [Act.put, List.setIfInBounds_toArray, List.set_cons_zero, List.set_cons_succ]))
        (refine oneH (i := 4) rfl (by kernel_rfl) (fun K hK => ?_); go_simp)
        (refine hK _ _ ⟨by constructor <;> go_simp, ?_⟩; clear hK K; (try simp only [Act.put, List.setIfInBounds_toArray, List.set_cons_zero, List.set_cons_succ]))
        (refine oneH (i := 5) rfl (by kernel_rfl) (fun K hK => ?_); go_simp)
        (with_reducible refine (CallsIn.inRound _ (callsIn_wide.2 (add_any (.slice _ 2 2) _ _ (ints_two _ p ln.w _ _ (by simp)).drew ?_))).mono ?_)
        · intro z hz
          rcases List.mem_cons.1 hz with rfl | hz
          · exact HP.out
          rcases List.mem_cons.1 hz with rfl | hz
          · exact HLW.out
          cases hz
        rintro e w' ⟨rfl, rfl⟩
        dsimp only
        (refine hK _ _ ⟨by constructor <;> go_simp, ?_⟩; clear hK K; (try simp only [Act.put, List.setIfInBounds_toArray, List.set_cons_zero, List.set_cons_succ]))
        (refine oneH (i := 6) rfl (by kernel_rfl) (fun K hK => ?_); go_simp)
        (refine hK _ _ ⟨by constructor <;> go_simp, ?_⟩; clear hK K; (try simp only [Act.put, List.setIfInBounds_toArray, List.set_cons_zero, List.set_cons_succ]))
        (refine oneH (i := 7) rfl (by kernel_rfl) (fun K hK => ?_); go_simp)
        (refine hK _ _ ⟨by constructor <;> go_simp, ?_⟩; clear hK K; (try simp only [Act.put, List.setIfInBounds_toArray, List.set_cons_zero, List.set_cons_succ]))
        (refine doneH (by kernel_rfl) ?_ _)
        gi_wp2
        exact ⟨by (repeat (first | (with_reducible exact KeepBook.refl _) | (with_reducible refine KeepBook.alloc ?_ _) | (with_reducible refine KeepBook.setCell ?_ _ _) | (with_reducible refine KeepBook.drew ?_) | (refine KeepBook.below ?_ (by assumption)))), (((((g1.other (by simp) _).other (by simp) _).other (by simp) _).alloc _)).drew, (((((g2.other (by simp) _).other (by simp) _).other (by simp) _).alloc _)).drew, (((((G3.out.set 1 _).set' 1 _ (by simp [four, aroundI, satAdd_zero HP.out])).other (by simp) _).alloc _)).drew, (((((G4.out.other (by simp) _).other (by simp) _).set' 0 _ (by simp)).alloc _)).drew, (((((g5.setCell (by simp; omega) _).setCell (by simp; omega) _).setCell (by simp; omega) _).alloc _)).drew, by go_grown⟩
    · have e0 : W2.cell? ⟨w.heap.size + 1 + 1 + 1, 2, none⟩ = some (.int .i64 0) := g3.cell 2
      have f0 := g3.frozen 2
      clear g3 g4
      cases bd
      · gi_wp2
        exact ⟨by (repeat (first | (with_reducible exact KeepBook.refl _) | (with_reducible refine KeepBook.alloc ?_ _) | (with_reducible refine KeepBook.setCell ?_ _ _) | (with_reducible refine KeepBook.drew ?_) | (refine KeepBook.below ?_ (by assumption)))), (g1.other (by simp) _).other (by simp) _, (g2.other (by simp) _).other (by simp) _, (G3.out.set' 2 _ (by simp [four, aroundI])).other (by simp) _, (G4.out.other (by simp) _).set' 0 _ (by simp), (g5.setCell (by simp; omega) _).setCell (by simp; omega) _, by go_grown⟩
      · gi_wp2
        have hi' : W2.cell? ⟨w.heap.size + 1 + 1 + 1 + 1, 0, none⟩ = some (.int .i64 2) := hi
        have HS : (fun W => W.cell? ⟨w.heap.size + 1 + 1 + 1 + 1, 0, none⟩ = some (.int .i64 2) ∧ W.cell? ⟨W2x, 1, none⟩ = some (.int .i64 ln.w)) (W2.setCell ⟨w.heap.size + 1 + 1 + 1, 2, none⟩ (.int .i64 p)).drew := by constructor <;> go_simp
        refine beginH (fun W => W.cell? ⟨w.heap.size + 1 + 1 + 1 + 1, 0, none⟩ = some (.int .i64 2) ∧ W.cell? ⟨W2x, 1, none⟩ = some (.int .i64 ln.w)) (by kernel_rfl) ?_
        (refine takeH (i := 0) (v := ?_) rfl (by kernel_rfl) (by kernel_rfl) (by kernel_rfl) (by kernel_rfl) (fun _ _ _ h => h) ⟨Or.inl ⟨by rfl, ?_⟩, fun _ => rfl⟩ HS ?_; rotate_left; focus (rintro wS ⟨s1, s2⟩; go_simp; try (with_reducible rfl)); (try simp only [Act.put, List.setIfInBounds_toArray, List.set_cons_zero, List.set_cons_succ]))
        (refine takeH (i := 1) (v := ?_) rfl (by kernel_rfl) (by kernel_rfl) (by kernel_rfl) (by kernel_rfl) (fun _ _ _ h => h) ⟨Or.inl ⟨by rfl, ?_⟩, fun _ => rfl⟩ HS ?_; rotate_left; focus (rintro wS ⟨s1, s2⟩; go_simp; try (with_reducible rfl)); (try simp only [Act.put, List.setIfInBounds_toArray, List.set_cons_zero, List.set_cons_succ]))
        (refine takeH (i := 2) (v := ?_) rfl (by kernel_rfl) (by kernel_rfl) (by kernel_rfl) (by kernel_rfl) (fun _ _ _ h => h) ⟨Or.inl ⟨by rfl, ?_⟩, fun _ => rfl⟩ HS ?_; rotate_left; focus (rintro wS ⟨s1, s2⟩; go_simp; try (with_reducible rfl)); (try simp only [Act.put, List.setIfInBounds_toArray, List.set_cons_zero, List.set_cons_succ]))
        (refine takeH (i := 3) (v := ?_) rfl (by kernel_rfl) (by kernel_rfl) (by kernel_rfl) (by kernel_rfl) (fun _ _ _ h => h) ⟨Or.inl ⟨by rfl, ?_⟩, fun _ => rfl⟩ HS ?_; rotate_left; focus (rintro wS ⟨s1, s2⟩; go_simp; try (with_reducible rfl)); (try simp only [Act.put, List.setIfInBounds_toArray, List.set_cons_zero, List.set_cons_succ]))
        (refine oneH (i := 4) rfl (by kernel_rfl) (fun K hK => ?_); go_simp)
        (refine hK _ _ ⟨by constructor <;> go_simp, ?_⟩; clear hK K; (try simp only [Act.put, List.setIfInBounds_toArray, List.set_cons_zero, List.set_cons_succ]))
        (refine oneH (i := 5) rfl (by kernel_rfl) (fun K hK => ?_); go_simp)
        (with_reducible refine (CallsIn.inRound _ (callsIn_wide.2 (add_any (.slice _ 2 2) _ _ (ints_two _ p ln.w _ _ (by simp)).drew ?_))).mono ?_)
        · intro z hz
          rcases List.mem_cons.1 hz with rfl | hz
          · exact HP.out
          rcases List.mem_cons.1 hz with rfl | hz
          · exact HLW.out
          cases hz
        rintro e w' ⟨rfl, rfl⟩
        dsimp only
        (refine hK _ _ ⟨by constructor <;> go_simp, ?_⟩; clear hK K; (try simp only [Act.put, List.setIfInBounds_toArray, List.set_cons_zero, List.set_cons_succ]))
        (refine oneH (i := 6) rfl (by kernel_rfl) (fun K hK => ?_); go_simp)
        (refine hK _ _ ⟨by constructor <;> go_simp, ?_⟩; clear hK K; (try simp only [Act.put, List.setIfInBounds_toArray, List.set_cons_zero, List.set_cons_succ]))
        (refine oneH (i := 7) rfl (by kernel_rfl) (fun K hK => ?_); go_simp)
        (refine hK _ _ ⟨by constructor <;> go_simp, ?_⟩; clear hK K; (try simp only [Act.put, List.setIfInBounds_toArray, List.set_cons_zero, List.set_cons_succ]))
        (refine doneH (by kernel_rfl) ?_ _)
        gi_wp2
        exact ⟨by (repeat (first | (with_reducible exact KeepBook.refl _) | (with_reducible refine KeepBook.alloc ?_ _) | (with_reducible refine KeepBook.setCell ?_ _ _) | (with_reducible refine KeepBook.drew ?_) | (refine KeepBook.below ?_ (by assumption)))), (((((g1.other (by simp) _).other (by simp) _).other (by simp) _).alloc _)).drew, (((((g2.other (by simp) _).other (by simp) _).other (by simp) _).alloc _)).drew, (((((G3.out.set 2 _).set' 2 _ (by simp [four, aroundI, satAdd_zero HP.out])).other (by simp) _).alloc _)).drew, (((((G4.out.other (by simp) _).other (by simp) _).set' 0 _ (by simp)).alloc _)).drew, (((((g5.setCell (by simp; omega) _).setCell (by simp; omega) _).setCell (by simp; omega) _).alloc _)).drew, by go_grown⟩
    · have e0 : W2.cell? ⟨w.heap.size + 1 + 1 + 1, 3, none⟩ = some (.int .i64 0) := g3.cell 3
      have f0 := g3.frozen 3
      clear g3 g4
      cases bd
      · gi_wp2
        exact ⟨by (repeat (first | (with_reducible exact KeepBook.refl _) | (with_reducible refine KeepBook.alloc ?_ _) | (with_reducible refine KeepBook.setCell ?_ _ _) | (with_reducible refine KeepBook.drew ?_) | (refine KeepBook.below ?_ (by assumption)))), (g1.other (by simp) _).other (by simp) _, (g2.other (by simp) _).other (by simp) _, (G3.out.set' 3 _ (by simp [four, aroundI])).other (by simp) _, (G4.out.other (by simp) _).set' 0 _ (by simp), (g5.setCell (by simp; omega) _).setCell (by simp; omega) _, by go_grown⟩
      · gi_wp2
        have hi' : W2.cell? ⟨w.heap.size + 1 + 1 + 1 + 1, 0, none⟩ = some (.int .i64 3) := hi
        have HS : (fun W => W.cell? ⟨w.heap.size + 1 + 1 + 1 + 1, 0, none⟩ = some (.int .i64 3) ∧ W.cell? ⟨W2x, 1, none⟩ = some (.int .i64 ln.w)) (W2.setCell ⟨w.heap.size + 1 + 1 + 1, 3, none⟩ (.int .i64 p)).drew := by constructor <;> go_simp
        refine beginH (fun W => W.cell? ⟨w.heap.size + 1 + 1 + 1 + 1, 0, none⟩ = some (.int .i64 3) ∧ W.cell? ⟨W2x, 1, none⟩ = some (.int .i64 ln.w)) (by kernel_rfl) ?_
        (refine takeH (i := 0) (v := ?_) rfl (by kernel_rfl) (by kernel_rfl) (by kernel_rfl) (by kernel_rfl) (fun _ _ _ h => h) ⟨Or.inl ⟨by rfl, ?_⟩, fun _ => rfl⟩ HS ?_; rotate_left; focus (rintro wS ⟨s1, s2⟩; go_simp; try (with_reducible rfl)); (try simp only [Act.put, List.setIfInBounds_toArray, List.set_cons_zero, List.set_cons_succ]))
        (refine takeH (i := 1) (v := ?_) rfl (by kernel_rfl) (by kernel_rfl) (by kernel_rfl) (by kernel_rfl) (fun _ _ _ h => h) ⟨Or.inl ⟨by rfl, ?_⟩, fun _ => rfl⟩ HS ?_; rotate_left; focus (rintro wS ⟨s1, s2⟩; go_simp; try (with_reducible rfl)); (try simp only [Act.put, List.setIfInBounds_toArray, List.set_cons_zero, List.set_cons_succ]))
        (refine takeH (i := 2) (v := ?_) rfl (by kernel_rfl) (by kernel_rfl) (by kernel_rfl) (by kernel_rfl) (fun _ _ _ h => h) ⟨Or.inl ⟨by rfl, ?_⟩, fun _ => rfl⟩ HS ?_; rotate_left; focus (rintro wS ⟨s1, s2⟩; go_simp; try (with_reducible rfl)); (try simp only [Act.put, List.setIfInBounds_toArray, List.set_cons_zero, List.set_cons_succ]))
        (refine takeH (i := 3) (v := ?_) rfl (by kernel_rfl) (by kernel_rfl) (by kernel_rfl) (by kernel_rfl) (fun _ _ _ h => h) ⟨Or.inl ⟨by rfl, ?_⟩, fun _ => rfl⟩ HS ?_; rotate_left; focus (rintro wS ⟨s1, s2⟩; go_simp; try (with_reducible rfl)); (try simp only [Act.put, List.setIfInBounds_toArray, List.set_cons_zero, List.set_cons_succ]))
        (refine oneH (i := 4) rfl (by kernel_rfl) (fun K hK => ?_); go_simp)
        (refine hK _ _ ⟨by constructor <;> go_simp, ?_⟩; clear hK K; (try simp only [Act.put, List.setIfInBounds_toArray, List.set_cons_zero, List.set_cons_succ]))
        (refine oneH (i := 5) rfl (by kernel_rfl) (fun K hK => ?_); go_simp)
        (with_reducible refine (CallsIn.inRound _ (callsIn_wide.2 (add_any (.slice _ 2 2) _ _ (ints_two _ p ln.w _ _ (by simp)).drew ?_))).mono ?_)
        · intro z hz
          rcases List.mem_cons.1 hz with rfl | hz
          · exact HP.out
          rcases List.mem_cons.1 hz with rfl | hz
          · exact HLW.out
          cases hz
        rintro e w' ⟨rfl, rfl⟩
        dsimp only
        (refine hK _ _ ⟨by constructor <;> go_simp, ?_⟩; clear hK K; (try simp only [Act.put, List.setIfInBounds_toArray, List.set_cons_zero, List.set_cons_succ]))
        (refine oneH (i := 6) rfl (by kernel_rfl) (fun K hK => ?_); go_simp)
        (refine hK _ _ ⟨by constructor <;> go_simp, ?_⟩; clear hK K; (try simp only [Act.put, List.setIfInBounds_toArray, List.set_cons_zero, List.set_cons_succ]))
        (refine oneH (i := 7) rfl (by kernel_rfl) (fun K hK => ?_); go_simp)
        (refine hK _ _ ⟨by constructor <;> go_simp, ?_⟩; clear hK K; (try simp only [Act.put, List.setIfInBounds_toArray, List.set_cons_zero, List.set_cons_succ]))
        (refine doneH (by kernel_rfl) ?_ _)
        gi_wp2
        exact ⟨by (repeat (first | (with_reducible exact KeepBook.refl _) | (with_reducible refine KeepBook.alloc ?_ _) | (with_reducible refine KeepBook.setCell ?_ _ _) | (with_reducible refine KeepBook.drew ?_) | (refine KeepBook.below ?_ (by assumption)))), (((((g1.other (by simp) _).other (by simp) _).other (by simp) _).alloc _)).drew, (((((g2.other (by simp) _).other (by simp) _).other (by simp) _).alloc _)).drew, (((((G3.out.set 3 _).set' 3 _ (by simp [four, aroundI, satAdd_zero HP.out])).other (by simp) _).alloc _)).drew, (((((G4.out.other (by simp) _).other (by simp) _).set' 0 _ (by simp)).alloc _)).drew, (((((g5.setCell (by simp; omega) _).setCell (by simp; omega) _).setCell (by simp; omega) _).alloc _)).drew, by go_grown⟩
    · have := congrArg List.length HX.out
      simp [Sty.sides] at this

end Go.Proofs.Ytdeojdbehbpggaa
