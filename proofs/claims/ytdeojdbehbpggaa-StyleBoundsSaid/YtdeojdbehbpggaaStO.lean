/- Layer 3: a style that comes in. -/
import Derived.Test.YtdeojdbehbpggaaProg
import Derived.Test.YtdeojdbehbpggaaDefs
import Derived.Test.YtdeojdbehbpggaaFix
import Derived.WalkKit
import Derived.OpenShut
import Derived.ProofKit
import Derived.WideShapes
namespace Go.Proofs.Ytdeojdbehbpggaa
open Go.RowKit
open Go.ChangeShapes Go.WideShapes
set_option linter.unusedVariables false
set_option linter.unusedSimpArgs false

/-- the whole numbers of a style, but for the colours -/
def Sty.nums (s : Sty) : List Int := [s.wd.k, s.wd.n, s.ht.k, s.ht.n, s.p0, s.p1, s.p2, s.p3, s.b0.s, s.b0.w, s.b1.s, s.b1.w, s.b2.s, s.b2.w, s.b3.s, s.b3.w, s.cs, s.rs, s.al, s.g0, s.g1]

/-- types that hold no address -/
def flatB (P : Program) : Nat → TypeId → Bool
  | 0, _ => false
  | m + 1, t => match P.underlying t with
    | some .bool => true
    | some (.int _) => true
    | some .string => true
    | some (.struct fs) => fs.toList.all fun f => flatB P m f.type
    | some (.array _ e) => flatB P m e
    | _ => false

theorem mapM_same {α β : Type} {f g : α → Option β} : ∀ {l : List α}, (∀ a ∈ l, f a = g a) → l.mapM f = l.mapM g
  | [], _ => rfl
  | a :: l, h => by
    rw [List.mapM_cons, List.mapM_cons, h a (by simp), mapM_same (l := l) (fun b hb => h b (by simp [hb]))]

theorem flat_trod {H : Type} {enc : TypeId × Value → H} {P : Program} {w w' : World} {base base' : Nat} {sp sp' : Nat → Bool} {held held' : Bool} :
    ∀ (fuel m : Nat) (t : TypeId) (cs : List Value), flatB P m t = true → DataW.trod enc P w base sp held fuel t cs = DataW.trod enc P w' base' sp' held' fuel t cs
  | 0, _, _, _, _ => rfl
  | fuel + 1, 0, _, _, h => by cases h
  | fuel + 1, m + 1, t, cs, h => by
    unfold flatB at h
    unfold DataW.trod
    cases hu : P.underlying t with
    | none => simp [hu] at h
    | some k =>
      rw [hu] at h
      cases k
      case bool => rcases cs with _ | ⟨c, _ | ⟨c', cs⟩⟩ <;> first | rfl | (cases c <;> rfl)
      case int k => rcases cs with _ | ⟨c, _ | ⟨c', cs⟩⟩ <;> first | rfl | (cases c <;> rfl)
      case string => rcases cs with _ | ⟨c, _ | ⟨c', cs⟩⟩ <;> first | rfl | (cases c <;> rfl)
      case struct fs =>
        have e := fun f hf => flat_trod (enc := enc) (P := P) (w := w) (w' := w') (base := base) (base' := base') (sp := sp) (sp' := sp') (held := held) (held' := held') fuel m f.type ((cs.drop f.offset).take (P.cellsOf f.type)) (List.all_eq_true.1 h f hf)
        have e2 := mapM_same e
        show (if _ then _ else _) = (if _ then _ else _)
        rw [e2]
      case array n e =>
        have e2 := mapM_same (l := List.range n) (fun i hi => flat_trod (enc := enc) (P := P) (w := w) (w' := w') (base := base) (base' := base') (sp := sp) (sp' := sp') (held := held) (held' := held') fuel m e ((cs.drop (i * P.cellsOf e)).take (P.cellsOf e)) h)
        show (if _ then _ else _) = (if _ then _ else _)
        rw [e2]
      all_goals cases h

set_option maxRecDepth 100000 in
set_option maxHeartbeats 4000000 in
theorem open_sty {H : Type} {enc : TypeId × Value → H} {w : World} {base : Nat} {sp : Nat → Bool} {held : Bool} {r : Reach} {b0 : Nat} {v : Value} {d : DataW H} {ps : List MemPlace}
    (hval : Value.okWide Try.prog w r b0 31 v) (hd : DataW.Trod enc Try.prog w base sp held 31 v d ps) : ∃ s : Sty, v = .agg s.cells ∧ ps = [] ∧ ∀ n ∈ s.nums, I64 n := by
  have hc0 : Try.prog.cellsOf 31 = 29 := by kernel_rfl
  have hc1 : Try.prog.cellsOf 23 = 2 := by kernel_rfl
  have hc2 : Try.prog.cellsOf 3 = 1 := by kernel_rfl
  have hc3 : Try.prog.cellsOf 2 = 1 := by kernel_rfl
  have hc4 : Try.prog.cellsOf 24 = 4 := by kernel_rfl
  have hc5 : Try.prog.cellsOf 28 = 12 := by kernel_rfl
  have hc6 : Try.prog.cellsOf 27 = 3 := by kernel_rfl
  have hc7 : Try.prog.cellsOf 25 = 1 := by kernel_rfl
  have hc8 : Try.prog.cellsOf 4 = 1 := by kernel_rfl
  have hc9 : Try.prog.cellsOf 29 = 2 := by kernel_rfl
  obtain ⟨cs, rfl, hsz⟩ := okWide_struct Try.underlying31 hval
  obtain ⟨fuel, hy⟩ := hd
  obtain ⟨x, hx⟩ : ∃ x, (d, ps) = x := ⟨_, rfl⟩
  rw [hx] at hy
  obtain ⟨cl, rfl⟩ : ∃ cl : List Value, cs = cl.toArray := ⟨cs.toList, by simp⟩
  rw [hc0] at hsz
  simp only [Value.cells, List.size_toArray, List.toList_toArray] at hsz hy
  match cl, hsz with
  | [c0, c1, c2, c3, c4, c5, c6, c7, c8, c9, c10, c11, c12, c13, c14, c15, c16, c17, c18, c19, c20, c21, c22, c23, c24, c25, c26, c27, c28], _ =>
  obtain ⟨ys, m, _, rfl, _, hl, hf⟩ := DataW.trod_struct Try.underlying31 hy
  match ys, hl with
  | [y_0, y_1, y_2, y_3, y_4, y_5, y_6, y_7, y_8, y_9, y_10, y_11], _ =>
  have hy_0 := hf 0 _ rfl
  have hy_1 := hf 1 _ rfl
  have hy_2 := hf 2 _ rfl
  have hy_3 := hf 3 _ rfl
  have hy_4 := hf 4 _ rfl
  have hy_5 := hf 5 _ rfl
  have hy_6 := hf 6 _ rfl
  have hy_7 := hf 7 _ rfl
  have hy_8 := hf 8 _ rfl
  have hy_9 := hf 9 _ rfl
  have hy_10 := hf 10 _ rfl
  have hy_11 := hf 11 _ rfl
  simp [hc0, hc1, hc2, hc3, hc4, hc5, hc6, hc7, hc8, hc9] at hy_0
  simp [hc0, hc1, hc2, hc3, hc4, hc5, hc6, hc7, hc8, hc9] at hy_1
  simp [hc0, hc1, hc2, hc3, hc4, hc5, hc6, hc7, hc8, hc9] at hy_2
  simp [hc0, hc1, hc2, hc3, hc4, hc5, hc6, hc7, hc8, hc9] at hy_3
  simp [hc0, hc1, hc2, hc3, hc4, hc5, hc6, hc7, hc8, hc9] at hy_4
  simp [hc0, hc1, hc2, hc3, hc4, hc5, hc6, hc7, hc8, hc9] at hy_5
  simp [hc0, hc1, hc2, hc3, hc4, hc5, hc6, hc7, hc8, hc9] at hy_6
  simp [hc0, hc1, hc2, hc3, hc4, hc5, hc6, hc7, hc8, hc9] at hy_7
  simp [hc0, hc1, hc2, hc3, hc4, hc5, hc6, hc7, hc8, hc9] at hy_8
  simp [hc0, hc1, hc2, hc3, hc4, hc5, hc6, hc7, hc8, hc9] at hy_9
  simp [hc0, hc1, hc2, hc3, hc4, hc5, hc6, hc7, hc8, hc9] at hy_10
  simp [hc0, hc1, hc2, hc3, hc4, hc5, hc6, hc7, hc8, hc9] at hy_11
  obtain ⟨ys_0, m_0, _, rfl, _, hl_0, hf_0⟩ := DataW.trod_struct Try.underlying23 hy_0
  match ys_0, hl_0 with
  | [y_0_0, y_0_1], _ =>
  have hy_0_0 := hf_0 0 _ rfl
  have hy_0_1 := hf_0 1 _ rfl
  simp [hc0, hc1, hc2, hc3, hc4, hc5, hc6, hc7, hc8, hc9] at hy_0_0
  simp [hc0, hc1, hc2, hc3, hc4, hc5, hc6, hc7, hc8, hc9] at hy_0_1
  obtain ⟨x0, e_x0, rfl, s_x0⟩ := DataW.trod_int Try.underlying3 hy_0_0
  obtain ⟨x1, e_x1, rfl, s_x1⟩ := DataW.trod_int Try.underlying2 hy_0_1
  obtain ⟨ys_1, m_1, _, rfl, _, hl_1, hf_1⟩ := DataW.trod_struct Try.underlying23 hy_1
  match ys_1, hl_1 with
  | [y_1_0, y_1_1], _ =>
  have hy_1_0 := hf_1 0 _ rfl
  have hy_1_1 := hf_1 1 _ rfl
  simp [hc0, hc1, hc2, hc3, hc4, hc5, hc6, hc7, hc8, hc9] at hy_1_0
  simp [hc0, hc1, hc2, hc3, hc4, hc5, hc6, hc7, hc8, hc9] at hy_1_1
  obtain ⟨x2, e_x2, rfl, s_x2⟩ := DataW.trod_int Try.underlying3 hy_1_0
  obtain ⟨x3, e_x3, rfl, s_x3⟩ := DataW.trod_int Try.underlying2 hy_1_1
  obtain ⟨ys_2, m_2, _, rfl, _, hl_2, hf_2⟩ := DataW.trod_array Try.underlying24 hy_2
  match ys_2, hl_2 with
  | [y_2_0, y_2_1, y_2_2, y_2_3], _ =>
  have hy_2_0 := hf_2 0 (by omega)
  have hy_2_1 := hf_2 1 (by omega)
  have hy_2_2 := hf_2 2 (by omega)
  have hy_2_3 := hf_2 3 (by omega)
  simp [hc0, hc1, hc2, hc3, hc4, hc5, hc6, hc7, hc8, hc9] at hy_2_0
  simp [hc0, hc1, hc2, hc3, hc4, hc5, hc6, hc7, hc8, hc9] at hy_2_1
  simp [hc0, hc1, hc2, hc3, hc4, hc5, hc6, hc7, hc8, hc9] at hy_2_2
  simp [hc0, hc1, hc2, hc3, hc4, hc5, hc6, hc7, hc8, hc9] at hy_2_3
  obtain ⟨x4, e_x4, rfl, s_x4⟩ := DataW.trod_int Try.underlying2 hy_2_0
  obtain ⟨x5, e_x5, rfl, s_x5⟩ := DataW.trod_int Try.underlying2 hy_2_1
  obtain ⟨x6, e_x6, rfl, s_x6⟩ := DataW.trod_int Try.underlying2 hy_2_2
  obtain ⟨x7, e_x7, rfl, s_x7⟩ := DataW.trod_int Try.underlying2 hy_2_3
  obtain ⟨ys_3, m_3, _, rfl, _, hl_3, hf_3⟩ := DataW.trod_array Try.underlying28 hy_3
  match ys_3, hl_3 with
  | [y_3_0, y_3_1, y_3_2, y_3_3], _ =>
  have hy_3_0 := hf_3 0 (by omega)
  have hy_3_1 := hf_3 1 (by omega)
  have hy_3_2 := hf_3 2 (by omega)
  have hy_3_3 := hf_3 3 (by omega)
  simp [hc0, hc1, hc2, hc3, hc4, hc5, hc6, hc7, hc8, hc9] at hy_3_0
  simp [hc0, hc1, hc2, hc3, hc4, hc5, hc6, hc7, hc8, hc9] at hy_3_1
  simp [hc0, hc1, hc2, hc3, hc4, hc5, hc6, hc7, hc8, hc9] at hy_3_2
  simp [hc0, hc1, hc2, hc3, hc4, hc5, hc6, hc7, hc8, hc9] at hy_3_3
  obtain ⟨ys_3_0, m_3_0, _, rfl, _, hl_3_0, hf_3_0⟩ := DataW.trod_struct Try.underlying27 hy_3_0
  match ys_3_0, hl_3_0 with
  | [y_3_0_0, y_3_0_1, y_3_0_2], _ =>
  have hy_3_0_0 := hf_3_0 0 _ rfl
  have hy_3_0_1 := hf_3_0 1 _ rfl
  have hy_3_0_2 := hf_3_0 2 _ rfl
  simp [hc0, hc1, hc2, hc3, hc4, hc5, hc6, hc7, hc8, hc9] at hy_3_0_0
  simp [hc0, hc1, hc2, hc3, hc4, hc5, hc6, hc7, hc8, hc9] at hy_3_0_1
  simp [hc0, hc1, hc2, hc3, hc4, hc5, hc6, hc7, hc8, hc9] at hy_3_0_2
  obtain ⟨x8, e_x8, rfl, s_x8⟩ := DataW.trod_int Try.underlying3 hy_3_0_0
  obtain ⟨x9, e_x9, rfl, s_x9⟩ := DataW.trod_int Try.underlying2 hy_3_0_1
  obtain ⟨x10, e_x10, rfl, s_x10⟩ := DataW.trod_int Try.underlying25 hy_3_0_2
  obtain ⟨ys_3_1, m_3_1, _, rfl, _, hl_3_1, hf_3_1⟩ := DataW.trod_struct Try.underlying27 hy_3_1
  match ys_3_1, hl_3_1 with
  | [y_3_1_0, y_3_1_1, y_3_1_2], _ =>
  have hy_3_1_0 := hf_3_1 0 _ rfl
  have hy_3_1_1 := hf_3_1 1 _ rfl
  have hy_3_1_2 := hf_3_1 2 _ rfl
  simp [hc0, hc1, hc2, hc3, hc4, hc5, hc6, hc7, hc8, hc9] at hy_3_1_0
  simp [hc0, hc1, hc2, hc3, hc4, hc5, hc6, hc7, hc8, hc9] at hy_3_1_1
  simp [hc0, hc1, hc2, hc3, hc4, hc5, hc6, hc7, hc8, hc9] at hy_3_1_2
  obtain ⟨x11, e_x11, rfl, s_x11⟩ := DataW.trod_int Try.underlying3 hy_3_1_0
  obtain ⟨x12, e_x12, rfl, s_x12⟩ := DataW.trod_int Try.underlying2 hy_3_1_1
  obtain ⟨x13, e_x13, rfl, s_x13⟩ := DataW.trod_int Try.underlying25 hy_3_1_2
  obtain ⟨ys_3_2, m_3_2, _, rfl, _, hl_3_2, hf_3_2⟩ := DataW.trod_struct Try.underlying27 hy_3_2
  match ys_3_2, hl_3_2 with
  | [y_3_2_0, y_3_2_1, y_3_2_2], _ =>
  have hy_3_2_0 := hf_3_2 0 _ rfl
  have hy_3_2_1 := hf_3_2 1 _ rfl
  have hy_3_2_2 := hf_3_2 2 _ rfl
  simp [hc0, hc1, hc2, hc3, hc4, hc5, hc6, hc7, hc8, hc9] at hy_3_2_0
  simp [hc0, hc1, hc2, hc3, hc4, hc5, hc6, hc7, hc8, hc9] at hy_3_2_1
  simp [hc0, hc1, hc2, hc3, hc4, hc5, hc6, hc7, hc8, hc9] at hy_3_2_2
  obtain ⟨x14, e_x14, rfl, s_x14⟩ := DataW.trod_int Try.underlying3 hy_3_2_0
  obtain ⟨x15, e_x15, rfl, s_x15⟩ := DataW.trod_int Try.underlying2 hy_3_2_1
  obtain ⟨x16, e_x16, rfl, s_x16⟩ := DataW.trod_int Try.underlying25 hy_3_2_2
  obtain ⟨ys_3_3, m_3_3, _, rfl, _, hl_3_3, hf_3_3⟩ := DataW.trod_struct Try.underlying27 hy_3_3
  match ys_3_3, hl_3_3 with
  | [y_3_3_0, y_3_3_1, y_3_3_2], _ =>
  have hy_3_3_0 := hf_3_3 0 _ rfl
  have hy_3_3_1 := hf_3_3 1 _ rfl
  have hy_3_3_2 := hf_3_3 2 _ rfl
  simp [hc0, hc1, hc2, hc3, hc4, hc5, hc6, hc7, hc8, hc9] at hy_3_3_0
  simp [hc0, hc1, hc2, hc3, hc4, hc5, hc6, hc7, hc8, hc9] at hy_3_3_1
  simp [hc0, hc1, hc2, hc3, hc4, hc5, hc6, hc7, hc8, hc9] at hy_3_3_2
  obtain ⟨x17, e_x17, rfl, s_x17⟩ := DataW.trod_int Try.underlying3 hy_3_3_0
  obtain ⟨x18, e_x18, rfl, s_x18⟩ := DataW.trod_int Try.underlying2 hy_3_3_1
  obtain ⟨x19, e_x19, rfl, s_x19⟩ := DataW.trod_int Try.underlying25 hy_3_3_2
  obtain ⟨x20, e_x20, rfl, s_x20⟩ := DataW.trod_int Try.underlying3 hy_4
  obtain ⟨x21, e_x21, rfl, s_x21⟩ := DataW.trod_int Try.underlying3 hy_5
  obtain ⟨x22, e_x22, rfl, s_x22⟩ := DataW.trod_int Try.underlying3 hy_6
  obtain ⟨x23, e_x23, rfl⟩ := DataW.trod_bool Try.underlying4 hy_7
  obtain ⟨x24, e_x24, rfl⟩ := DataW.trod_bool Try.underlying4 hy_8
  obtain ⟨ys_9, m_9, _, rfl, _, hl_9, hf_9⟩ := DataW.trod_array Try.underlying29 hy_9
  match ys_9, hl_9 with
  | [y_9_0, y_9_1], _ =>
  have hy_9_0 := hf_9 0 (by omega)
  have hy_9_1 := hf_9 1 (by omega)
  simp [hc0, hc1, hc2, hc3, hc4, hc5, hc6, hc7, hc8, hc9] at hy_9_0
  simp [hc0, hc1, hc2, hc3, hc4, hc5, hc6, hc7, hc8, hc9] at hy_9_1
  obtain ⟨x25, e_x25, rfl, s_x25⟩ := DataW.trod_int Try.underlying2 hy_9_0
  obtain ⟨x26, e_x26, rfl, s_x26⟩ := DataW.trod_int Try.underlying2 hy_9_1
  obtain ⟨x27, e_x27, rfl⟩ := DataW.trod_bool Try.underlying4 hy_10
  obtain ⟨x28, e_x28, rfl⟩ := DataW.trod_bool Try.underlying4 hy_11
  simp only [List.cons.injEq, and_true] at e_x0 e_x1 e_x2 e_x3 e_x4 e_x5 e_x6 e_x7 e_x8 e_x9 e_x10 e_x11 e_x12 e_x13 e_x14 e_x15 e_x16 e_x17 e_x18 e_x19 e_x20 e_x21 e_x22 e_x23 e_x24 e_x25 e_x26 e_x27 e_x28
  subst e_x0 e_x1 e_x2 e_x3 e_x4 e_x5 e_x6 e_x7 e_x8 e_x9 e_x10 e_x11 e_x12 e_x13 e_x14 e_x15 e_x16 e_x17 e_x18 e_x19 e_x20 e_x21 e_x22 e_x23 e_x24 e_x25 e_x26 e_x27 e_x28
  refine ⟨⟨⟨x0, x1⟩, ⟨x2, x3⟩, x4, x5, x6, x7, ⟨x8, x9, x10⟩, ⟨x11, x12, x13⟩, ⟨x14, x15, x16⟩, ⟨x17, x18, x19⟩, x20, x21, x22, x23, x24, x25, x26, x27, x28⟩, rfl, (congrArg Prod.snd hx).trans (by simp), ?_⟩
  simp only [Sty.nums, List.forall_mem_cons]
  exact ⟨bounds_i64 s_x0, bounds_i64 s_x1, bounds_i64 s_x2, bounds_i64 s_x3, bounds_i64 s_x4, bounds_i64 s_x5, bounds_i64 s_x6, bounds_i64 s_x7, bounds_i64 s_x8, bounds_i64 s_x9, bounds_i64 s_x11, bounds_i64 s_x12, bounds_i64 s_x14, bounds_i64 s_x15, bounds_i64 s_x17, bounds_i64 s_x18, bounds_i64 s_x20, bounds_i64 s_x21, bounds_i64 s_x22, bounds_i64 s_x25, bounds_i64 s_x26, by simp⟩

open Go.ChangeAt in
theorem post_of_none {H : Type} {enc : TypeId × Value → H} {P : Program} {f : Func} {s : ChangeSpec} {apart fresh handsOn again : Bool} {W W' : World} {args : Array Value} {v : Value} {ds gs : List (DataW H)}
    (hW : DataW.Whole enc P f.params.toList s.vars apart W args.toList ds gs [])
    (hres : ∀ (b : Nat) (sp : Nat → Bool) (hd : Bool), DataW.TrodAll enc P W' b sp hd f.resultTypes.toList (v.resultList f.resultTypes.size) (s.fn H (ds ++ gs)).results [])
    (hargs : ∀ sp : Nat → Bool, DataW.TrodAll enc P W' 0 sp true f.params.toList args.toList (s.fn H (ds ++ gs)).args [])
    (hvars : ∀ sp : Nat → Bool, DataW.TrodVars enc P W' sp s.vars (s.fn H (ds ++ gs)).vars [])
    (hk : W.keptBut W' (fun _ => False))
    (hok : ∀ (j : Nat) (t : TypeId) (r : Value), f.resultTypes[j]? = some t → (v.resultList f.resultTypes.size)[j]? = some r → Value.okWide P W' .any 0 t r) :
    s.post enc P f apart fresh handsOn again W args v W' := by
  refine ⟨ds, gs, [], [], [], [], hW, hres _ _ _, hargs _, hvars _, World.keptBut_mono (fun p hp => hp.elim) hk, fun _ => ?_⟩
  refine ⟨hok, _, _, [], ⟨[], [], trodAll_append (hargs _) (hres _ _ _), hvars _, rfl, ?_, ?_⟩, ?_⟩
  · intro b off hp; cases hp
  · simp
  · simp


end Go.Proofs.Ytdeojdbehbpggaa
