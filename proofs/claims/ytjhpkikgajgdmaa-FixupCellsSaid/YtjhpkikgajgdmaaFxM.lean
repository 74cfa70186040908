/- Layer 5: the map of rooms; May and Around. -/
import Derived.OrdersIn
import Derived.RowKit
import Derived.Test.YtjhpkikgajgdmaaMap
import Derived.Test.YtjhpkikgajgdmaaBlk
import Derived.Test.YtjhpkikgajgdmaaK2
import Derived.ArgAppend
import Derived.Test.YtjhpkikgajgdmaaTrB
namespace Go.Proofs.Ytjhpkikgajgdmaa
open Go
set_option linter.unusedVariables false
set_option linter.unusedSimpArgs false
section
variable {F : Fence} {n : Nat} {P : Program} {ops : Array Oper} {Q : Exit → Act → World → Prop} {md : Region.Mode}

def unl (listed : Array Bool) : Nat := listed.toList.count false
theorem unl_set {listed : Array Bool} {i : Nat} (h : listed.getD i true = false) : unl (listed.setIfInBounds i true) + 1 = unl listed := by
  have hlt : i < listed.size := by
    rcases Nat.lt_or_ge i listed.size with h' | h'
    · exact h'
    · simp [Array.getElem?_eq_none h'] at h
  have hv : listed[i] = false := by simpa [hlt] using h
  unfold unl
  have hm : 0 < listed.toList.count false := List.count_pos_iff.2 (by rw [← hv]; exact Array.mem_toList_iff.2 (Array.getElem_mem hlt))
  rw [Array.toList_setIfInBounds, List.count_set (by simpa using hlt)]
  simp [hv]
  have : 0 < Array.count false listed := by simpa using hm
  omega
theorem unl_zero {listed : Array Bool} (h : unl listed = 0) (j : Nat) : listed.getD j true = true := by
  unfold unl at h
  rw [List.count_eq_zero] at h
  rcases Nat.lt_or_ge j listed.size with h' | h'
  · have : listed[j] ≠ false := fun e => h (by rw [← e]; exact Array.mem_toList_iff.2 (Array.getElem_mem h'))
    simpa [h'] using this
  · simp [Array.getElem?_eq_none h']
theorem unl_all (m : Nat) : unl (Array.replicate m false) = m := by unfold unl; simp
theorem first_unl {listed : Array Bool} : ∀ m, m ≤ listed.size → (∃ j, j < m ∧ listed.getD j true = false) → ∃ i, i < m ∧ listed.getD i true = false ∧ ∀ e, e < i → listed.getD e true = true
  | 0, _, ⟨j, hj, _⟩ => absurd hj (by omega)
  | m + 1, hm, h => by
    by_cases q : ∃ j, j < m ∧ listed.getD j true = false
    · obtain ⟨i, h1, h2, h3⟩ := first_unl m (by omega) q
      exact ⟨i, by omega, h2, h3⟩
    · obtain ⟨j, hj, hf⟩ := h
      have hjm : j = m := by
        rcases Nat.lt_or_ge j m with h' | h'
        · exact absurd ⟨j, h', hf⟩ q
        · omega
      subst hjm
      refine ⟨j, by omega, hf, fun e he => ?_⟩
      cases hh : listed.getD e true with
      | true => rfl
      | false => exact absurd ⟨e, he, hh⟩ q

/-- every operation hangs on earlier ones alone -/
def earlierB (ops : Array Oper) : Bool := (List.range ops.size).all fun i => match ops[i]? with
  | some o => o.after.all (fun e => e.on < i) && o.guard.isNone
  | none => true
theorem earlierB_one (h : earlierB ops = true) {i : Nat} {o : Oper} (ho : ops[i]? = some o) : (∀ e ∈ o.after, e.on < i) ∧ o.guard.isNone = true := by
  unfold earlierB at h
  rw [List.all_eq_true] at h
  have h1 := h i (List.mem_range.2 (Array.getElem?_eq_some_iff.1 ho).1)
  rw [ho] at h1
  simp only [Bool.and_eq_true, Array.all_eq_true_iff_forall_mem, decide_eq_true_eq] at h1
  exact h1
theorem getD_tf {listed : Array Bool} {j : Nat} (hj : j < listed.size) (h : listed.getD j true = true) : listed.getD j false = true := by simpa [hj] using h

theorem wpAnyIn_inv {I : Array Bool → Act → World → Prop} (he : earlierB ops = true)
    (hstep : ∀ (listed : Array Bool) (a : Act) (w : World) (i : Nat) (o : Oper), I listed a w → ops[i]? = some o → listed.getD i true = false → (∀ e ∈ o.after, Region.binds md e = true → listed.getD e.on false = true) →
      ∀ K : Act → World → Prop, (∀ a' w', I (listed.setIfInBounds i true) a' w' → K a' w') → Oper.wpIn F n P o a w K Q)
    (hfin : ∀ (listed : Array Bool) (a : Act) (w : World), I listed a w → (∀ j, j < ops.size → listed.getD j false = true) → Q .normal a w) :
    ∀ (fuel : Nat) (listed : Array Bool) (a : Act) (w : World), listed.size = ops.size → unl listed = fuel → I listed a w → wpAnyIn F n P md ops Q fuel listed a w
  | 0, listed, a, w, hs, hu, hI => by
    refine ⟨?_, hfin listed a w hI (fun j hj => getD_tf (by omega) (unl_zero hu j))⟩
    rw [List.eq_nil_iff_forall_not_mem]
    intro j hj
    have := (mem_ready.1 hj).1
    rw [unl_zero hu j] at this
    cases this
  | fuel + 1, listed, a, w, hs, hu, hI => by
    refine ⟨fun hr => ?_, fun i hi => ?_⟩
    · exfalso
      have hm : false ∈ listed.toList := List.count_pos_iff.1 (by have : listed.toList.count false = fuel + 1 := hu; omega)
      obtain ⟨j, hj, hjv⟩ := List.getElem_of_mem hm
      have hj' : j < listed.size := by simpa using hj
      obtain ⟨i, h1, h2, h3⟩ := first_unl listed.size (Nat.le_refl _) ⟨j, hj', by simpa [hj'] using hjv⟩
      have hio : i < ops.size := by omega
      have hir : i ∈ Region.ready md ops listed := mem_ready.2 ⟨h2, ops[i], Array.getElem?_eq_getElem hio, fun e hea _ => by
        have hlt := (earlierB_one he (Array.getElem?_eq_getElem hio)).1 e hea
        exact getD_tf (by omega) (h3 e.on hlt)⟩
      rw [hr] at hir
      cases hir
    · obtain ⟨hun, o, ho, hall⟩ := mem_ready.1 hi
      have hg := (earlierB_one he ho).2
      refine wpOpIn_mono (fun a' w' h => wpAnyIn_inv he hstep hfin fuel (listed.setIfInBounds i true) a' w' (by rw [Array.size_setIfInBounds]; exact hs) (by have := unl_set hun; omega) h) ?_
      unfold wpOpIn
      rw [ho]
      dsimp only
      rw [if_pos (by cases hgd : o.guard with
        | none => simp [Region.wanted, hgd]
        | some g => rw [hgd] at hg; cases hg)]
      exact hstep listed a w i o hI ho hun hall _ (fun _ _ h => h)

/-- the region as a whole -/
theorem region_inv {id : Nat} {I : Array Bool → Act → World → Prop} {a0 : Act} {w : World} (hm : P.follows .mixedOrders = true) (he : earlierB ops = true)
    (h0 : I (Array.replicate ops.size false) a0 w.drew)
    (hstep : ∀ (listed : Array Bool) (a : Act) (w : World) (i : Nat) (o : Oper), I listed a w → ops[i]? = some o → listed.getD i true = false → (∀ e ∈ o.after, Region.binds .any e = true → listed.getD e.on false = true) →
      ∀ K : Act → World → Prop, (∀ a' w', I (listed.setIfInBounds i true) a' w' → K a' w') → Oper.wpIn F n P o a w K Q)
    (hfin : ∀ (listed : Array Bool) (a : Act) (w : World), I listed a w → (∀ j, j < ops.size → listed.getD j false = true) → Q .normal a w) :
    (Code.region id ops true).wpIn F n P Q a0 w :=
  wpIn_region_any hm (wpAnyIn_inv he hstep hfin ops.size _ a0 w.drew (by simp) (unl_all _) h0)
/-- in the plain calculus -/
theorem wpAny_inv {I : Array Bool → Act → World → Prop} (he : earlierB ops = true)
    (hstep : ∀ (listed : Array Bool) (a : Act) (w : World) (i : Nat) (o : Oper), I listed a w → ops[i]? = some o → listed.getD i true = false → (∀ e ∈ o.after, Region.binds md e = true → listed.getD e.on false = true) →
      ∀ K : Act → World → Prop, (∀ a' w', I (listed.setIfInBounds i true) a' w' → K a' w') → Oper.wp P o a w K Q)
    (hfin : ∀ (listed : Array Bool) (a : Act) (w : World), I listed a w → (∀ j, j < ops.size → listed.getD j false = true) → Q .normal a w) :
    ∀ (fuel : Nat) (listed : Array Bool) (a : Act) (w : World), listed.size = ops.size → unl listed = fuel → I listed a w → wpAny P md ops Q fuel listed a w
  | 0, listed, a, w, hs, hu, hI => by
    refine ⟨?_, hfin listed a w hI (fun j hj => getD_tf (by omega) (unl_zero hu j))⟩
    rw [List.eq_nil_iff_forall_not_mem]
    intro j hj
    have := (mem_ready.1 hj).1
    rw [unl_zero hu j] at this
    cases this
  | fuel + 1, listed, a, w, hs, hu, hI => by
    refine ⟨fun hr => ?_, fun i hi => ?_⟩
    · exfalso
      have hm : false ∈ listed.toList := List.count_pos_iff.1 (by have : listed.toList.count false = fuel + 1 := hu; omega)
      obtain ⟨j, hj, hjv⟩ := List.getElem_of_mem hm
      have hj' : j < listed.size := by simpa using hj
      obtain ⟨i, h1, h2, h3⟩ := first_unl listed.size (Nat.le_refl _) ⟨j, hj', by simpa [hj'] using hjv⟩
      have hio : i < ops.size := by omega
      have hir : i ∈ Region.ready md ops listed := mem_ready.2 ⟨h2, ops[i], Array.getElem?_eq_getElem hio, fun e hea _ => by
        have hlt := (earlierB_one he (Array.getElem?_eq_getElem hio)).1 e hea
        exact getD_tf (by omega) (h3 e.on hlt)⟩
      rw [hr] at hir
      cases hir
    · obtain ⟨hun, o, ho, hall⟩ := mem_ready.1 hi
      have hg := (earlierB_one he ho).2
      refine wpOp_mono (fun a' w' h => wpAny_inv he hstep hfin fuel (listed.setIfInBounds i true) a' w' (by rw [Array.size_setIfInBounds]; exact hs) (by have := unl_set hun; omega) h) ?_
      unfold wpOp
      rw [ho]
      dsimp only
      rw [if_pos (by cases hgd : o.guard with
        | none => simp [Region.wanted, hgd]
        | some g => rw [hgd] at hg; cases hg)]
      exact .inl (hstep listed a w i o hI ho hun hall _ (fun _ _ h => h))

/-- the region as a whole -/
theorem region_inv0 {id : Nat} {I : Array Bool → Act → World → Prop} {a0 : Act} {w : World} (hm : P.follows .mixedOrders = true) (he : earlierB ops = true)
    (h0 : I (Array.replicate ops.size false) a0 w.drew)
    (hstep : ∀ (listed : Array Bool) (a : Act) (w : World) (i : Nat) (o : Oper), I listed a w → ops[i]? = some o → listed.getD i true = false → (∀ e ∈ o.after, Region.binds .any e = true → listed.getD e.on false = true) →
      ∀ K : Act → World → Prop, (∀ a' w', I (listed.setIfInBounds i true) a' w' → K a' w') → Oper.wp P o a w K Q)
    (hfin : ∀ (listed : Array Bool) (a : Act) (w : World), I listed a w → (∀ j, j < ops.size → listed.getD j false = true) → Q .normal a w) :
    (Code.region id ops true).wp P Q a0 w :=
  wp_region_any hm (wpAny_inv he hstep hfin ops.size _ a0 w.drew (by simp) (unl_all _) h0)
end
end Go.Proofs.Ytjhpkikgajgdmaa
namespace Go.Proofs.Ytjhpkikgajgdmaa.K
open Go.RowKit Go.Proofs.YtjhpkikgajgdmaaW.PrintWords Go.Proofs.YtjhpkikgajgdmaaW.PrintLast Go.Proofs.YtjhpkikgajgdmaaW.PrintMore
set_option linter.unusedVariables false
set_option linter.unusedSimpArgs false
attribute [local go_sem] Oper.semAt_some

def tblK : List Int := [3, 4, 5, 6, 7, 8, 9]
/-- what may stand in a node of a kind, and what is laid around others -/
def roomK (k : Int) : List Int × Int :=
  if k = 2 then (tblK, 9) else if k = 6 ∨ k = 7 ∨ k = 8 then ([9], 9) else if k = 9 then ([10], 10) else if k = 4 then (tblK ++ [0, 1, 2, 10], -1) else if k = 0 ∨ k = 3 ∨ k = 10 then ([0, 1, 2], 2) else ([], 0)
def keysR : List Int := [2, 6, 7, 8, 9, 4, 0, 3, 10]
/-- a slice that reads as numbers -/
def SlV (xs : List Int) (v : Value) (W : World) : Prop := ∃ A c, v = .slice A xs.length c ∧ xs.length ≤ c ∧ Kd.C (Kd.int .i64) W A xs.length xs
def RoomV (k : Int) (v : Value) (W : World) : Prop := ∃ s, v = .agg #[s, .int .i64 (roomK k).2] ∧ SlV (roomK k).1 s W
/-- a literal of numbers -/
def LitV (xs : List Int) (v : Value) (W : World) : Prop := ∃ b, v = .slice (some ⟨b, 0, none⟩) xs.length xs.length ∧ BlkIs W b 3 (xs.map (Value.int .i64)).toArray
theorem SlV.below {xs : List Int} {v : Value} {W W' : World} (h : SlV xs v W) (hb : Below W.heap.size W W') : SlV xs v W' := by
  obtain ⟨A, c, h1, h2, h3⟩ := h
  exact ⟨A, c, h1, h2, Kd.C_below h3 hb⟩
theorem SlV.cells {xs : List Int} {v : Value} {W W' : World} (h : SlV xs v W) (hc : ∀ a, W'.cell? a = W.cell? a) : SlV xs v W' := by
  obtain ⟨A, c, h1, h2, h3, h4, h5⟩ := h
  refine ⟨A, c, h1, h2, h3, h4, fun hn => ?_⟩
  obtain ⟨ad, hA, hr⟩ := h5 hn
  refine ⟨ad, hA, fun j p hj => ?_⟩
  obtain ⟨cs, c1, c2, c3⟩ := hr j p hj
  exact ⟨cs, c1, c2, fun i u hu => by rw [hc]; exact c3 i u hu⟩
theorem RoomV.below {k : Int} {v : Value} {W W' : World} (h : RoomV k v W) (hb : Below W.heap.size W W') : RoomV k v W' := by
  obtain ⟨s, h1, h2⟩ := h; exact ⟨s, h1, h2.below hb⟩
theorem RoomV.cells {k : Int} {v : Value} {W W' : World} (h : RoomV k v W) (hc : ∀ a, W'.cell? a = W.cell? a) : RoomV k v W' := by
  obtain ⟨s, h1, h2⟩ := h; exact ⟨s, h1, h2.cells hc⟩
theorem LitV.below {xs : List Int} {v : Value} {W W' : World} (h : LitV xs v W) (hb : Below W.heap.size W W') : LitV xs v W' := by
  obtain ⟨b, h1, h2⟩ := h
  exact ⟨b, h1, (hb.block b (BlkIs.lt h2)).trans h2⟩
theorem LitV.sl {xs : List Int} {v : Value} {W : World} (h : LitV xs v W) (hl : xs.length ≤ 1000) : SlV xs v W := by
  obtain ⟨b, rfl, h2⟩ := h
  refine ⟨_, _, rfl, Nat.le_refl _, rfl, by omega, fun _ => ⟨_, rfl, fun j p hj => ⟨[.int .i64 p], rfl, rfl, fun i u hu => ?_⟩⟩⟩
  have hi : i = 0 := by
    have := (List.getElem?_eq_some_iff.1 hu).1
    simp at this; exact this
  subst hi
  obtain rfl := Option.some.inj hu
  have hc := Blk.cell (show Blk W b _ _ from h2) j
  rw [List.getElem?_toArray, List.getElem?_map, hj] at hc
  rw [show (Addr.add ⟨b, 0, none⟩ (j * (Kd.int .i64).sz + 0)) = ⟨b, j, none⟩ by unfold Addr.add; simp [show (Kd.int .i64).sz = 1 from rfl]; intro e; exact e.symm]
  exact hc

/-- what operation number i of the region yields -/
def FaR : Nat → Value → World → Prop
  | 1, v, W => LitV tblK v W
  | 2, v, W => RoomV 2 v W
  | 4, v, W => RoomV 6 v W
  | 6, v, W => RoomV 7 v W
  | 8, v, W => RoomV 8 v W
  | 10, v, W => LitV [10] v W
  | 11, v, W => LitV [10] v W
  | 12, v, W => RoomV 9 v W
  | 14, v, W => LitV tblK v W
  | 15, v, W => LitV [0, 1, 2, 10] v W
  | 16, v, W => SlV (tblK ++ [0, 1, 2, 10]) v W
  | 17, v, W => RoomV 4 v W
  | 19, v, W => RoomV 0 v W
  | 21, v, W => RoomV 3 v W
  | 23, v, W => RoomV 10 v W
  | _, _, _ => True
/-- its slot -/
def dR (i : Nat) : Nat := [12, 13, 14, 50, 15, 50, 16, 50, 17, 50, 18, 19, 20, 50, 21, 22, 23, 24, 50, 25, 50, 26, 50, 27, 50, 28, 0].getD i 50
/-- the operations that yield a slice or a room -/
def valR : List Nat := [1, 2, 4, 6, 8, 10, 11, 12, 14, 15, 16, 17, 19, 21, 23]
def insR : List (Nat × Int) := [(3, 2), (5, 6), (7, 7), (9, 8), (13, 9), (18, 4), (20, 0), (22, 3), (24, 10)]
theorem faR_below {i : Nat} {v : Value} {W W' : World} (h : FaR i v W) (hb : Below W.heap.size W W') : FaR i v W' := by
  unfold FaR at h ⊢
  split at h <;> first
    | exact RoomV.below h hb
    | exact LitV.below h hb
    | exact SlV.below h hb
    | trivial
theorem LitV.turn {xs : List Int} {v : Value} {W W' : World} {b : Nat} (h : LitV xs v W) (ht : MapTurned W W' b) (hm : ∃ es c, W.heap[b]? = some (.map es c)) : LitV xs v W' := by
  obtain ⟨q, h1, h2⟩ := h
  obtain ⟨es, c, hm⟩ := hm
  refine ⟨q, h1, (ht.other q (fun e => ?_)).trans h2⟩
  subst e
  have h2' : W.heap[q]? = some (.cells _ _ (0, 0)) := h2
  rw [hm] at h2'
  cases h2'
theorem faR_turn {i : Nat} {v : Value} {W W' : World} {b : Nat} (h : FaR i v W) (ht : MapTurned W W' b) (hm : ∃ es c, W.heap[b]? = some (.map es c)) : FaR i v W' := by
  unfold FaR at h ⊢
  split at h <;> first
    | exact RoomV.cells h ht.cell
    | exact LitV.turn h ht hm
    | exact SlV.cells h ht.cell
    | trivial

/-- the map, as far as it is filled -/
structure MapR (listed : Array Bool) (w : World) (b : Nat) : Prop where
  is : ∃ f, MapIs (Value.int .i64) w b f ∧ (∀ k v, f k = some v → k ∈ keysR ∧ RoomV k v w) ∧ ∀ p ∈ insR, listed.getD p.1 false = true → (f p.2).isSome = true
structure RoomI (W0 : World) (B1 B2 : Nat) (s3 : Value) (listed : Array Bool) (a : Act) (w : World) : Prop where
  size : a.tmps.size = 29
  df : a.defers = []
  t1 : a.tmps.getD 1 undef = .pointer (some ⟨B1, 0, none⟩)
  t2 : a.tmps.getD 2 undef = .pointer (some ⟨B2, 0, none⟩)
  t3 : a.tmps.getD 3 undef = s3
  ll : listed.size = 27
  below : Below W0.heap.size W0 w
  facts : ∀ i ∈ valR, listed.getD i false = true → FaR i (a.tmps.getD (dR i) undef) w
  none_ : listed.getD 0 false = false → listed.getD 25 false = false ∧ listed.getD 26 false = false ∧ ∀ p ∈ insR, listed.getD p.1 false = false
  map : listed.getD 0 false = true → ∃ b, a.tmps.getD 12 undef = .map (some b) ∧ W0.heap.size ≤ b ∧ MapR listed w b ∧ (listed.getD 25 false = true → a.tmps.getD 28 undef = .map (some b)) ∧ (listed.getD 26 false = true → a.tmps.getD 0 undef = .map (some b))

theorem put_getD {a : Act} {d j : Nat} {v : Value} (h : j ≠ d) : (a.put (some d) v).tmps.getD j undef = a.tmps.getD j undef := by
  show (a.tmps.setIfInBounds d v).getD j undef = _
  simp [Array.getElem?_setIfInBounds_ne (Ne.symm h)]
theorem put_self {a : Act} {d : Nat} {v : Value} (h : d < a.tmps.size) : (a.put (some d) v).tmps.getD d undef = v := by
  show (a.tmps.setIfInBounds d v).getD d undef = _
  simp [h]
theorem set_getD {listed : Array Bool} {i j : Nat} (h : j ≠ i) : (listed.setIfInBounds i true).getD j false = listed.getD j false := getD_set_ne false (Ne.symm h)
theorem valR_ne : ∀ i ∈ valR, dR i ≠ 0 ∧ dR i ≠ 1 ∧ dR i ≠ 2 ∧ dR i ≠ 3 ∧ dR i ≠ 12 ∧ dR i ≠ 28 ∧ dR i < 29 ∧ i ≠ 0 ∧ i ≠ 25 ∧ i ≠ 26 := by decide
theorem valR_inj : ∀ i ∈ valR, ∀ j ∈ valR, j ≠ i → dR j ≠ dR i := by decide
theorem valR_ins : ∀ i ∈ valR, ∀ p ∈ insR, p.1 ≠ i := by decide
theorem ins_val : ∀ p ∈ insR, p.1 ∉ valR ∧ p.1 ≠ 0 ∧ p.1 ≠ 25 ∧ p.1 ≠ 26 ∧ p.2 ∈ keysR := by decide
theorem MapR.below {listed : Array Bool} {w w' : World} {b : Nat} (h : MapR listed w b) (hb : Below w.heap.size w w') : MapR listed w' b := by
  obtain ⟨f, h1, h2, h3⟩ := h.is
  exact ⟨⟨f, h1.below hb h1.lt, fun k v hk => ⟨(h2 k v hk).1, (h2 k v hk).2.below hb⟩, h3⟩⟩
theorem MapR.list {listed : Array Bool} {w : World} {b i : Nat} (h : MapR listed w b) (hi : ∀ p ∈ insR, p.1 ≠ i) : MapR (listed.setIfInBounds i true) w b := by
  obtain ⟨f, h1, h2, h3⟩ := h.is
  exact ⟨⟨f, h1, h2, fun p hp hl => h3 p hp (by rwa [set_getD (hi p hp)] at hl)⟩⟩
/-- a slice or a room is yielded -/
theorem RoomI.val {W0 : World} {B1 B2 : Nat} {s3 : Value} {listed : Array Bool} {a : Act} {w w' : World} (h : RoomI W0 B1 B2 s3 listed a w) {i : Nat} (hi : i ∈ valR) {v : Value} (hb : Below w.heap.size w w') (hv : FaR i v w') :
    RoomI W0 B1 B2 s3 (listed.setIfInBounds i true) (a.put (some (dR i)) v) w' := by
  obtain ⟨n0, n1, n2, n3, n12, n28, nl, ni0, ni25, ni26⟩ := valR_ne i hi
  refine ⟨by show (a.tmps.setIfInBounds _ _).size = _; rw [Array.size_setIfInBounds]; exact h.size, h.df, by rw [put_getD (Ne.symm n1)]; exact h.t1, by rw [put_getD (Ne.symm n2)]; exact h.t2, by rw [put_getD (Ne.symm n3)]; exact h.t3, by rw [Array.size_setIfInBounds]; exact h.ll, h.below.trans (hb.mono h.below.size), fun j hj hl => ?_, fun h0 => ?_, fun h0 => ?_⟩
  · by_cases e : j = i
    · subst e; rw [put_self (by rw [h.size]; exact nl)]; exact hv
    · rw [put_getD (valR_inj i hi j hj e)]
      exact faR_below (h.facts j hj (by rwa [set_getD e] at hl)) hb
  · rw [set_getD (Ne.symm ni0)] at h0
    obtain ⟨m1, m2, m3⟩ := h.none_ h0
    exact ⟨by rw [set_getD (Ne.symm ni25)]; exact m1, by rw [set_getD (Ne.symm ni26)]; exact m2, fun p hp => by rw [set_getD (valR_ins i hi p hp)]; exact m3 p hp⟩
  · rw [set_getD (Ne.symm ni0)] at h0
    obtain ⟨b, m1, m2, m3, m4, m5⟩ := h.map h0
    exact ⟨b, by rw [put_getD (Ne.symm n12)]; exact m1, m2, (m3.below hb).list (valR_ins i hi), fun hl => by rw [put_getD (Ne.symm n28)]; exact m4 (by rwa [set_getD (Ne.symm ni25)] at hl), fun hl => by rw [put_getD (Ne.symm n0)]; exact m5 (by rwa [set_getD (Ne.symm ni26)] at hl)⟩
/-- the map is made -/
theorem RoomI.made {W0 : World} {B1 B2 : Nat} {s3 : Value} {listed : Array Bool} {a : Act} {w : World} (h : RoomI W0 B1 B2 s3 listed a w) (h0 : listed.getD 0 false = false) :
    RoomI W0 B1 B2 s3 (listed.setIfInBounds 0 true) (a.put (some 12) (.map (some w.heap.size))) (w.alloc (.map #[] 0)) := by
  obtain ⟨m1, m2, m3⟩ := h.none_ h0
  have hb : Below w.heap.size w (w.alloc (.map #[] 0)) := (Below.refl _ w).alloc (Nat.le_refl _) _
  refine ⟨by show (a.tmps.setIfInBounds _ _).size = _; rw [Array.size_setIfInBounds]; exact h.size, h.df, by rw [put_getD (by decide)]; exact h.t1, by rw [put_getD (by decide)]; exact h.t2, by rw [put_getD (by decide)]; exact h.t3, by rw [Array.size_setIfInBounds]; exact h.ll, h.below.trans (hb.mono h.below.size), fun j hj hl => ?_, fun hl => ?_, fun _ => ?_⟩
  · obtain ⟨-, -, -, -, n12, -, -, n0, -, -⟩ := valR_ne j hj
    rw [put_getD n12]
    exact faR_below (h.facts j hj (by rwa [set_getD n0] at hl)) hb
  · have : (listed.setIfInBounds 0 true).getD 0 false = true := by
      have : 0 < listed.size := by rw [h.ll]; decide
      simp [this]
    rw [this] at hl; cases hl
  · refine ⟨w.heap.size, put_self (by rw [h.size]; decide), h.below.size, ⟨⟨_, MapIs.made w, (fun k v hk => (by cases hk)), (fun p hp hl => ?_)⟩⟩, fun hl => ?_, fun hl => ?_⟩
    · rw [set_getD (ins_val p hp).2.1, m3 p hp] at hl; cases hl
    · rw [set_getD (by decide), m1] at hl; cases hl
    · rw [set_getD (by decide), m2] at hl; cases hl
/-- a room is laid into the map -/
theorem RoomI.ins {W0 : World} {B1 B2 : Nat} {s3 : Value} {listed : Array Bool} {a : Act} {w w' : World} (h : RoomI W0 B1 B2 s3 listed a w) {p : Nat × Int} (hp : p ∈ insR) {b : Nat} {v : Value} (h0 : listed.getD 0 false = true) (h12 : a.tmps.getD 12 undef = .map (some b)) (hv : RoomV p.2 v w)
    {f : Int → Option Value} (hf : MapIs (Value.int .i64) w b f) (hfk : ∀ k v, f k = some v → k ∈ keysR ∧ RoomV k v w) (hfi : ∀ p ∈ insR, listed.getD p.1 false = true → (f p.2).isSome = true) (hm : MapIs (Value.int .i64) w' b (upd f p.2 v)) (ht : MapTurned w w' b) :
    RoomI W0 B1 B2 s3 (listed.setIfInBounds p.1 true) a w' := by
  obtain ⟨nv, n0, n25, n26, hk⟩ := ins_val p hp
  have hmp : ∃ es c, w.heap[b]? = some (.map es c) := by obtain ⟨es, c, ks, hb, -, -⟩ := hf; exact ⟨es, c, hb⟩
  have hbb : W0.heap.size ≤ b := by
    obtain ⟨b', e1, e2, -⟩ := h.map h0
    rw [h12] at e1
    injection e1 with e1
    injection e1 with e1
    rw [e1]; exact e2
  refine ⟨h.size, h.df, h.t1, h.t2, h.t3, by rw [Array.size_setIfInBounds]; exact h.ll, ht.below h.below hbb, fun j hj hl => ?_, fun hl => ?_, fun _ => ?_⟩
  · have hne : j ≠ p.1 := fun e => nv (e ▸ hj)
    exact faR_turn (h.facts j hj (by rwa [set_getD hne] at hl)) ht hmp
  · rw [set_getD (Ne.symm n0), h0] at hl; cases hl
  · obtain ⟨b', e1, e2, -, e4, e5⟩ := h.map h0
    obtain rfl : b = b' := by
      rw [h12] at e1
      injection e1 with e1
      injection e1
    refine ⟨b, h12, hbb, ⟨⟨_, hm, fun k u hk' => ?_, fun q hq hl => ?_⟩⟩, fun hl => e4 (by rwa [set_getD (Ne.symm n25)] at hl), fun hl => e5 (by rwa [set_getD (Ne.symm n26)] at hl)⟩
    · unfold upd at hk'
      split at hk'
      · rename_i e
        cases hk'
        rw [e]
        exact ⟨hk, hv.cells ht.cell⟩
      · exact ⟨(hfk k u hk').1, (hfk k u hk').2.cells ht.cell⟩
    · unfold upd
      split
      · rfl
      · rename_i e
        have hne : q.1 ≠ p.1 := fun hh => e (by
          have : ∀ q ∈ insR, ∀ p ∈ insR, q.1 = p.1 → q.2 = p.2 := by decide
          exact this q hq p hp hh)
        exact hfi q hq (by rwa [set_getD hne] at hl)
theorem hall_of {md : Region.Mode} {listed : Array Bool} {o : Oper} (hall : ∀ e ∈ o.after, Region.binds md e = true → listed.getD e.on false = true) {j : Nat} (h : (o.after.any fun e => Region.binds md e && e.on == j) = true) : listed.getD j false = true := by
  obtain ⟨e, he, hb⟩ := Array.any_eq_true'.1 h
  simp only [Bool.and_eq_true, beq_iff_eq] at hb
  rw [← hb.2]; exact hall e he hb.1
theorem RoomI.mapOf {W0 : World} {B1 B2 : Nat} {s3 : Value} {listed : Array Bool} {a : Act} {w : World} (h : RoomI W0 B1 B2 s3 listed a w) {b b' : Nat} (e : a.tmps.getD 12 undef = .map (some b)) (e' : a.tmps.getD 12 undef = .map (some b')) : b = b' := by
  rw [e] at e'
  injection e' with e'
  injection e'
/-- the map is read, then handed back -/
theorem RoomI.m25 {W0 : World} {B1 B2 : Nat} {s3 : Value} {listed : Array Bool} {a : Act} {w : World} (h : RoomI W0 B1 B2 s3 listed a w) (h0 : listed.getD 0 false = true) {b : Nat} (h12 : a.tmps.getD 12 undef = .map (some b)) :
    RoomI W0 B1 B2 s3 (listed.setIfInBounds 25 true) (a.put (some 28) (.map (some b))) w := by
  refine ⟨by show (a.tmps.setIfInBounds _ _).size = _; rw [Array.size_setIfInBounds]; exact h.size, h.df, by rw [put_getD (by decide)]; exact h.t1, by rw [put_getD (by decide)]; exact h.t2, by rw [put_getD (by decide)]; exact h.t3, by rw [Array.size_setIfInBounds]; exact h.ll, h.below, fun j hj hl => ?_, fun hl => ?_, fun _ => ?_⟩
  · obtain ⟨-, -, -, -, -, n28, -, -, n25, -⟩ := valR_ne j hj
    rw [put_getD n28]
    exact h.facts j hj (by rwa [set_getD n25] at hl)
  · rw [set_getD (by decide), h0] at hl; cases hl
  · obtain ⟨b', e1, e2, e3, e4, e5⟩ := h.map h0
    obtain rfl := h.mapOf h12 e1
    exact ⟨b, by rw [put_getD (by decide)]; exact h12, e2, e3.list (fun p hp => (ins_val p hp).2.2.1), fun _ => put_self (by rw [h.size]; decide), fun hl => by rw [put_getD (by decide)]; exact e5 (by rwa [set_getD (by decide)] at hl)⟩
theorem RoomI.m26 {W0 : World} {B1 B2 : Nat} {s3 : Value} {listed : Array Bool} {a : Act} {w : World} (h : RoomI W0 B1 B2 s3 listed a w) (h0 : listed.getD 0 false = true) {b : Nat} (h12 : a.tmps.getD 12 undef = .map (some b)) :
    RoomI W0 B1 B2 s3 (listed.setIfInBounds 26 true) (a.put (some 0) (.map (some b))) w := by
  refine ⟨by show (a.tmps.setIfInBounds _ _).size = _; rw [Array.size_setIfInBounds]; exact h.size, h.df, by rw [put_getD (by decide)]; exact h.t1, by rw [put_getD (by decide)]; exact h.t2, by rw [put_getD (by decide)]; exact h.t3, by rw [Array.size_setIfInBounds]; exact h.ll, h.below, fun j hj hl => ?_, fun hl => ?_, fun _ => ?_⟩
  · obtain ⟨n0, -, -, -, -, -, -, -, -, n26⟩ := valR_ne j hj
    rw [put_getD n0]
    exact h.facts j hj (by rwa [set_getD n26] at hl)
  · rw [set_getD (by decide), h0] at hl; cases hl
  · obtain ⟨b', e1, e2, e3, e4, e5⟩ := h.map h0
    obtain rfl := h.mapOf h12 e1
    exact ⟨b, by rw [put_getD (by decide)]; exact h12, e2, e3.list (fun p hp => (ins_val p hp).2.2.2.1), fun hl => by rw [put_getD (by decide)]; exact e4 (by rwa [set_getD (by decide)] at hl), fun _ => put_self (by rw [h.size]; decide)⟩
theorem getD_tt {listed : Array Bool} {i n : Nat} (h : listed.size = n) (hi : i < n) (hu : listed.getD i true = false) : listed.getD i false = false := by
  have : i < listed.size := by omega
  simpa [this] using hu
theorem add_zero_at (b j : Nat) : (Addr.add ⟨b, 0, none⟩ j) = ⟨b, j, none⟩ := by unfold Addr.add; simp; intro e; exact e.symm
theorem RoomI.at25 {W0 : World} {B1 B2 : Nat} {s3 : Value} {listed : Array Bool} {a : Act} {w : World} (h : RoomI W0 B1 B2 s3 listed a w) (h25 : listed.getD 25 false = true) :
    listed.getD 0 false = true ∧ ∃ b, a.tmps.getD 12 undef = .map (some b) ∧ a.tmps.getD 28 undef = .map (some b) := by
  cases h0 : listed.getD 0 false with
  | true =>
    obtain ⟨b, e1, -, -, e4, -⟩ := h.map h0
    exact ⟨rfl, b, e1, e4 h25⟩
  | false => rw [(h.none_ h0).1] at h25; cases h25
theorem op_append {P : Program} {o : Oper} {a : Act} {w w' : World} {K : Act → World → Prop} {Q : Exit → Act → World → Prop} {v xv v' : Value} (s x : Operand) (t : TypeId)
    (ho : o.op = .call { callee := .builtin .append, args := #[s, x], argTypes := #[t, t] }) (hs : a.eval s = v) (hx : a.eval x = xv)
    (hr : (Builtin.append_ #[t, t] o.type #[v, xv]).run P w = .ok v' w') (h : K (a.put o.dst v') w') : Oper.wp P o a w K Q := by
  unfold Oper.wp
  simp [execOp, ho, resolve, invoke, builtin, hs, hx, hr, Result.andThen]
  exact h
end Go.Proofs.Ytjhpkikgajgdmaa.K
namespace Go.Proofs.Ytjhpkikgajgdmaa.K
open Go.RowKit Go.Proofs.YtjhpkikgajgdmaaW.PrintWords Go.Proofs.YtjhpkikgajgdmaaW.PrintLast Go.Proofs.YtjhpkikgajgdmaaW.PrintMore
set_option linter.unusedVariables false
set_option linter.unusedSimpArgs false
attribute [local go_sem] Oper.semAt_some

theorem kinds_any (v : Value) (W : World) : Calls Try.prog 37 #[v] W fun e w' => e = .returned v ∧ w' = W := by
  go_enter Try.func37, Try.ntmps37
  go_wp2
  go_ret
  exact ⟨rfl, rfl⟩
theorem none_listed {n : Nat} (i : Nat) : (Array.replicate n false).getD i false = false := by simp [Array.getElem?_replicate]; split <;> rfl
theorem wp_pick5 {P : Program} {c : Code} {Q : Exit → Act → World → Prop} {a : Act} {w : World} {c1 c2 c3 c4 c5 : Array Value} {t1 t2 t3 t4 t5 : Nat}
    (h : ∀ W, BlkIs W w.heap.size t1 c1 → BlkIs W (w.heap.size + 1) t2 c2 → BlkIs W (w.heap.size + 1 + 1) t3 c3 → BlkIs W (w.heap.size + 1 + 1 + 1) t4 c4 → BlkIs W (w.heap.size + 1 + 1 + 1 + 1) t5 c5 → Below w.heap.size w W → w.heap.size + 1 + 1 + 1 + 1 + 1 = W.heap.size → Code.wp P c Q a W) :
    Code.wp P c Q a (((((w.alloc (.cells c1 t1)).alloc (.cells c2 t2)).alloc (.cells c3 t3)).alloc (.cells c4 t4)).alloc (.cells c5 t5)) := by
  have key : ∀ (V : World) (n : Nat) (cs : Array Value) (t : Nat), V.heap.size = n → BlkIs (V.alloc (.cells cs t)) n t cs := fun V n cs t e => by subst e; exact World.alloc_heap_new V _
  refine h _ ?_ ?_ ?_ ?_ ?_ ?_ (by simp)
  · exact BlkIs.alloc (BlkIs.alloc (BlkIs.alloc (BlkIs.alloc (key _ _ _ _ rfl) _) _) _) _
  · exact BlkIs.alloc (BlkIs.alloc (BlkIs.alloc (key _ _ _ _ (by simp)) _) _) _
  · exact BlkIs.alloc (BlkIs.alloc (key _ _ _ _ (by simp)) _) _
  · exact BlkIs.alloc (key _ _ _ _ (by simp)) _
  · exact key _ _ _ _ (by simp)
  · exact (((((Below.refl _ w).alloc (Nat.le_refl _) _).alloc (by simp) _).alloc (by simp; omega) _).alloc (by simp; omega) _).alloc (by simp; omega) _
set_option maxRecDepth 100000 in
set_option maxHeartbeats 4000000 in
theorem rooms_any (w : World) : Calls Try.prog 26 #[] w fun e w' => ∃ b, e = .returned (.map (some b)) ∧ Below w.heap.size w w' ∧ ∃ f, MapIs (Value.int .i64) w' b f ∧ (∀ k v, f k = some v → k ∈ keysR ∧ RoomV k v w') ∧ ∀ p ∈ insR, (f p.2).isSome = true := by
  go_enter Try.func26, Try.ntmps26
  go_upto_region 4 with (go_at_call 37; refine (kinds_any _ _).mono ?_; rintro e w1 ⟨rfl, rfl⟩)
  rename_i K hK0
  refine wp_pick5 (fun W b1 b2 b3 b4 b5 hB hsz => ?_)
  have HB := Lib.hid hB
  clear hB
  generalize hs3 : Value.slice (some ⟨w.heap.size + 1 + 1 + 1 + 1, 0, none⟩) 7 7 = s3
  refine region_inv0 (I := RoomI W.drew (w.heap.size + 1) (w.heap.size + 1 + 1 + 1) s3) (by kernel_rfl) (by kernel_rfl) ?_ ?_ ?_
  · exact ⟨rfl, rfl, rfl, rfl, rfl, rfl, Below.refl _ _, fun i hi hl => (by rw [none_listed] at hl; cases hl), fun _ => ⟨none_listed _, none_listed _, fun p _ => none_listed _⟩, fun hl => (by rw [none_listed] at hl; cases hl)⟩
  · intro listed a V i o hI ho hun hall K2 hK
    obtain ⟨t, df⟩ := a
    obtain rfl : df = [] := hI.df
    have x1 : BlkIs V (w.heap.size + 1) 56 _ := (hI.below.block _ (BlkIs.lt b2)).trans b2
    have x3 : BlkIs V (w.heap.size + 1 + 1 + 1) 56 _ := (hI.below.block _ (BlkIs.lt b4)).trans b4
    have x0 : BlkIs V w.heap.size 3 _ := (hI.below.block _ (BlkIs.lt b1)).trans b1
    have x2 : BlkIs V (w.heap.size + 1 + 1) 3 _ := (hI.below.block _ (BlkIs.lt b3)).trans b3
    have x4 : BlkIs V (w.heap.size + 1 + 1 + 1 + 1) 3 _ := (hI.below.block _ (BlkIs.lt b5)).trans b5
    have h1 : t.getD 1 undef = .pointer (some ⟨w.heap.size + 1, 0, none⟩) := hI.t1
    have h2 : t.getD 2 undef = .pointer (some ⟨w.heap.size + 1 + 1 + 1, 0, none⟩) := hI.t2
    have h3 : t.getD 3 undef = s3 := hI.t3
    clear b1 b2 b3 b4 b5 HB
    rcases i with _ | _ | _ | _ | _ | _ | _ | _ | _ | _ | _ | _ | _ | _ | _ | _ | _ | _ | _ | _ | _ | _ | _ | _ | _ | _ | _ | i
    · cases ho
      go_simp
      exact hK _ _ (hI.made (getD_tt hI.ll (by decide) hun))
    · cases ho
      go_simp
      exact hK _ _ (hI.val (i := 1) (by decide) (Below.refl _ _) ⟨_, hs3.symm, x4⟩)
    · cases ho
      have hl := hall_of hall (j := 1) (by kernel_rfl)
      obtain ⟨b, h13, hb⟩ := hI.facts 1 (by decide) hl
      replace h13 : t.getD 13 undef = .slice (some ⟨b, 0, none⟩) 7 7 := h13
      have h13' := h13
      rw [Array.getD_eq_getD_getElem?] at h13'
      go_simp
      exact hK _ _ (hI.val (i := 2) (by decide) (Below.refl _ _) ⟨_, rfl, LitV.sl (xs := tblK) ⟨b, rfl, hb⟩ (by decide)⟩)
    · cases ho
      have hl0 := hall_of hall (j := 0) (by kernel_rfl)
      have hl2 := hall_of hall (j := 2) (by kernel_rfl)
      obtain ⟨s, h14, hs⟩ := hI.facts 2 (by decide) hl2
      replace h14 : t.getD 14 undef = .agg #[s, .int .i64 (9)] := h14
      obtain ⟨b, h12, -, hm, -, -⟩ := hI.map hl0
      replace h12 : t.getD 12 undef = .map (some b) := h12
      obtain ⟨f, m1, m2, m3⟩ := hm.is
      obtain ⟨V', hr, mm, tt⟩ := m1.update (P := Try.prog) (keyOK_int Try.underlying3) Try.underlying57 2 (.agg #[s, .int .i64 (9)])
      go_simp
      exact hK _ _ (hI.ins (p := (3, 2)) (by decide) hl0 h12 ⟨s, rfl, hs⟩ m1 m2 m3 mm tt)
    · cases ho
      have y0 := BlkIs.cell x1 0
      have y1 := BlkIs.cell x1 1
      have l0 := BlkIs.lt x1
      go_simp
      exact hK _ _ (hI.val (i := 4) (by decide) (Below.refl _ _) ⟨_, rfl, LitV.sl (xs := [9]) ⟨_, rfl, x0⟩ (by decide)⟩)
    · cases ho
      have hl0 := hall_of hall (j := 0) (by kernel_rfl)
      have hl2 := hall_of hall (j := 4) (by kernel_rfl)
      obtain ⟨s, h14, hs⟩ := hI.facts 4 (by decide) hl2
      replace h14 : t.getD 15 undef = .agg #[s, .int .i64 (9)] := h14
      obtain ⟨b, h12, -, hm, -, -⟩ := hI.map hl0
      replace h12 : t.getD 12 undef = .map (some b) := h12
      obtain ⟨f, m1, m2, m3⟩ := hm.is
      obtain ⟨V', hr, mm, tt⟩ := m1.update (P := Try.prog) (keyOK_int Try.underlying3) Try.underlying57 6 (.agg #[s, .int .i64 (9)])
      go_simp
      exact hK _ _ (hI.ins (p := (5, 6)) (by decide) hl0 h12 ⟨s, rfl, hs⟩ m1 m2 m3 mm tt)
    · cases ho
      have y0 := BlkIs.cell x1 0
      have y1 := BlkIs.cell x1 1
      have l0 := BlkIs.lt x1
      go_simp
      exact hK _ _ (hI.val (i := 6) (by decide) (Below.refl _ _) ⟨_, rfl, LitV.sl (xs := [9]) ⟨_, rfl, x0⟩ (by decide)⟩)
    · cases ho
      have hl0 := hall_of hall (j := 0) (by kernel_rfl)
      have hl2 := hall_of hall (j := 6) (by kernel_rfl)
      obtain ⟨s, h14, hs⟩ := hI.facts 6 (by decide) hl2
      replace h14 : t.getD 16 undef = .agg #[s, .int .i64 (9)] := h14
      obtain ⟨b, h12, -, hm, -, -⟩ := hI.map hl0
      replace h12 : t.getD 12 undef = .map (some b) := h12
      obtain ⟨f, m1, m2, m3⟩ := hm.is
      obtain ⟨V', hr, mm, tt⟩ := m1.update (P := Try.prog) (keyOK_int Try.underlying3) Try.underlying57 7 (.agg #[s, .int .i64 (9)])
      go_simp
      exact hK _ _ (hI.ins (p := (7, 7)) (by decide) hl0 h12 ⟨s, rfl, hs⟩ m1 m2 m3 mm tt)
    · cases ho
      have y0 := BlkIs.cell x1 0
      have y1 := BlkIs.cell x1 1
      have l0 := BlkIs.lt x1
      go_simp
      exact hK _ _ (hI.val (i := 8) (by decide) (Below.refl _ _) ⟨_, rfl, LitV.sl (xs := [9]) ⟨_, rfl, x0⟩ (by decide)⟩)
    · cases ho
      have hl0 := hall_of hall (j := 0) (by kernel_rfl)
      have hl2 := hall_of hall (j := 8) (by kernel_rfl)
      obtain ⟨s, h14, hs⟩ := hI.facts 8 (by decide) hl2
      replace h14 : t.getD 17 undef = .agg #[s, .int .i64 (9)] := h14
      obtain ⟨b, h12, -, hm, -, -⟩ := hI.map hl0
      replace h12 : t.getD 12 undef = .map (some b) := h12
      obtain ⟨f, m1, m2, m3⟩ := hm.is
      obtain ⟨V', hr, mm, tt⟩ := m1.update (P := Try.prog) (keyOK_int Try.underlying3) Try.underlying57 8 (.agg #[s, .int .i64 (9)])
      go_simp
      exact hK _ _ (hI.ins (p := (9, 8)) (by decide) hl0 h12 ⟨s, rfl, hs⟩ m1 m2 m3 mm tt)
    · cases ho
      go_simp
      exact hK _ _ (hI.val (i := 10) (by decide) ((Below.refl _ V).alloc (Nat.le_refl _) _) ⟨V.heap.size, rfl, World.alloc_heap_new V _⟩)
    · cases ho
      have hl := hall_of hall (j := 10) (by kernel_rfl)
      obtain ⟨b, h13, hb⟩ := hI.facts 10 (by decide) hl
      replace h13 : t.getD 18 undef = .slice (some ⟨b, 0, none⟩) 1 1 := h13
      go_simp
      refine (kinds_any _ V).mono ?_
      rintro e w' ⟨rfl, rfl⟩
      exact hK _ _ (hI.val (i := 11) (by decide) (Below.refl _ _) ⟨b, rfl, hb⟩)
    · cases ho
      have hl := hall_of hall (j := 11) (by kernel_rfl)
      obtain ⟨b, h13, hb⟩ := hI.facts 11 (by decide) hl
      replace h13 : t.getD 19 undef = .slice (some ⟨b, 0, none⟩) 1 1 := h13
      have h13' := h13
      rw [Array.getD_eq_getD_getElem?] at h13'
      go_simp
      exact hK _ _ (hI.val (i := 12) (by decide) (Below.refl _ _) ⟨_, rfl, LitV.sl (xs := [10]) ⟨b, rfl, hb⟩ (by decide)⟩)
    · cases ho
      have hl0 := hall_of hall (j := 0) (by kernel_rfl)
      have hl2 := hall_of hall (j := 12) (by kernel_rfl)
      obtain ⟨s, h14, hs⟩ := hI.facts 12 (by decide) hl2
      replace h14 : t.getD 20 undef = .agg #[s, .int .i64 (10)] := h14
      obtain ⟨b, h12, -, hm, -, -⟩ := hI.map hl0
      replace h12 : t.getD 12 undef = .map (some b) := h12
      obtain ⟨f, m1, m2, m3⟩ := hm.is
      obtain ⟨V', hr, mm, tt⟩ := m1.update (P := Try.prog) (keyOK_int Try.underlying3) Try.underlying57 9 (.agg #[s, .int .i64 (10)])
      go_simp
      exact hK _ _ (hI.ins (p := (13, 9)) (by decide) hl0 h12 ⟨s, rfl, hs⟩ m1 m2 m3 mm tt)
    · cases ho
      go_simp
      exact hK _ _ (hI.val (i := 14) (by decide) (Below.refl _ _) ⟨_, hs3.symm, x4⟩)
    · cases ho
      go_simp
      exact hK _ _ (hI.val (i := 15) (by decide) ((Below.refl _ V).alloc (Nat.le_refl _) _) ⟨V.heap.size, rfl, World.alloc_heap_new V _⟩)
    · cases ho
      have hl14 := hall_of hall (j := 14) (by kernel_rfl)
      have hl15 := hall_of hall (j := 15) (by kernel_rfl)
      obtain ⟨b, h21, hb⟩ := hI.facts 14 (by decide) hl14
      obtain ⟨q, h22, hq⟩ := hI.facts 15 (by decide) hl15
      replace h21 : t.getD 21 undef = .slice (some ⟨b, 0, none⟩) 7 7 := h21
      replace h22 : t.getD 22 undef = .slice (some ⟨q, 0, none⟩) 4 4 := h22
      obtain ⟨v', w', hr, ho', hg⟩ := run_append_arg_grows (P := Try.prog) V 30 30 3 Try.t3 (.int .i64 0) 1 8 Try.underlying30 (by kernel_rfl) (by kernel_rfl) (by kernel_rfl) (by kernel_rfl) rfl (by decide) ⟨b, 0, none⟩ 7 7 (tblK.map (Value.int .i64)) rfl (fun j u hj => by rw [add_zero_at]; rw [← hj, ← List.getElem?_toArray]; exact Blk.cell (show Blk V b _ _ from hb) j) ⟨q, 0, none⟩ 4 4 ([0, 1, 2, 10].map (Value.int .i64)) rfl (fun j u hj => by rw [add_zero_at]; rw [← hj, ← List.getElem?_toArray]; exact Blk.cell (show Blk V q _ _ from hq) j) (by decide) (by decide) (by decide)
      have hR : Kd.R (Kd.int .i64) 3 w' V.heap.size (fun _ => True) v' (tblK ++ [0, 1, 2, 10]) := Kd.R_of_own (h1 := fun _ => rfl) ho' (fun _ _ => trivial)
      refine op_append (.tmp 21) (.tmp 22) 30 rfl h21 h22 hr ?_
      exact hK _ _ (hI.val (i := 16) (by decide) (Below.grown (Below.refl V.heap.size V) hg (Nat.le_refl _) (fun _ h => (by cases h))) (Kd.R_reads hR))
    · cases ho
      have hl := hall_of hall (j := 16) (by kernel_rfl)
      obtain ⟨A, c, h13, hc, hb⟩ := hI.facts 16 (by decide) hl
      replace h13 : t.getD 23 undef = .slice A 11 c := h13
      have h13' := h13
      rw [Array.getD_eq_getD_getElem?] at h13'
      go_simp
      exact hK _ _ (hI.val (i := 17) (by decide) (Below.refl _ _) ⟨_, rfl, A, c, rfl, hc, hb⟩)
    · cases ho
      have hl0 := hall_of hall (j := 0) (by kernel_rfl)
      have hl2 := hall_of hall (j := 17) (by kernel_rfl)
      obtain ⟨s, h14, hs⟩ := hI.facts 17 (by decide) hl2
      replace h14 : t.getD 24 undef = .agg #[s, .int .i64 (-1)] := h14
      obtain ⟨b, h12, -, hm, -, -⟩ := hI.map hl0
      replace h12 : t.getD 12 undef = .map (some b) := h12
      obtain ⟨f, m1, m2, m3⟩ := hm.is
      obtain ⟨V', hr, mm, tt⟩ := m1.update (P := Try.prog) (keyOK_int Try.underlying3) Try.underlying57 4 (.agg #[s, .int .i64 (-1)])
      go_simp
      exact hK _ _ (hI.ins (p := (18, 4)) (by decide) hl0 h12 ⟨s, rfl, hs⟩ m1 m2 m3 mm tt)
    · cases ho
      have y0 := BlkIs.cell x3 0
      have y1 := BlkIs.cell x3 1
      have l0 := BlkIs.lt x3
      go_simp
      exact hK _ _ (hI.val (i := 19) (by decide) (Below.refl _ _) ⟨_, rfl, LitV.sl (xs := [0, 1, 2]) ⟨_, rfl, x2⟩ (by decide)⟩)
    · cases ho
      have hl0 := hall_of hall (j := 0) (by kernel_rfl)
      have hl2 := hall_of hall (j := 19) (by kernel_rfl)
      obtain ⟨s, h14, hs⟩ := hI.facts 19 (by decide) hl2
      replace h14 : t.getD 25 undef = .agg #[s, .int .i64 (2)] := h14
      obtain ⟨b, h12, -, hm, -, -⟩ := hI.map hl0
      replace h12 : t.getD 12 undef = .map (some b) := h12
      obtain ⟨f, m1, m2, m3⟩ := hm.is
      obtain ⟨V', hr, mm, tt⟩ := m1.update (P := Try.prog) (keyOK_int Try.underlying3) Try.underlying57 0 (.agg #[s, .int .i64 (2)])
      go_simp
      exact hK _ _ (hI.ins (p := (20, 0)) (by decide) hl0 h12 ⟨s, rfl, hs⟩ m1 m2 m3 mm tt)
    · cases ho
      have y0 := BlkIs.cell x3 0
      have y1 := BlkIs.cell x3 1
      have l0 := BlkIs.lt x3
      go_simp
      exact hK _ _ (hI.val (i := 21) (by decide) (Below.refl _ _) ⟨_, rfl, LitV.sl (xs := [0, 1, 2]) ⟨_, rfl, x2⟩ (by decide)⟩)
    · cases ho
      have hl0 := hall_of hall (j := 0) (by kernel_rfl)
      have hl2 := hall_of hall (j := 21) (by kernel_rfl)
      obtain ⟨s, h14, hs⟩ := hI.facts 21 (by decide) hl2
      replace h14 : t.getD 26 undef = .agg #[s, .int .i64 (2)] := h14
      obtain ⟨b, h12, -, hm, -, -⟩ := hI.map hl0
      replace h12 : t.getD 12 undef = .map (some b) := h12
      obtain ⟨f, m1, m2, m3⟩ := hm.is
      obtain ⟨V', hr, mm, tt⟩ := m1.update (P := Try.prog) (keyOK_int Try.underlying3) Try.underlying57 3 (.agg #[s, .int .i64 (2)])
      go_simp
      exact hK _ _ (hI.ins (p := (22, 3)) (by decide) hl0 h12 ⟨s, rfl, hs⟩ m1 m2 m3 mm tt)
    · cases ho
      have y0 := BlkIs.cell x3 0
      have y1 := BlkIs.cell x3 1
      have l0 := BlkIs.lt x3
      go_simp
      exact hK _ _ (hI.val (i := 23) (by decide) (Below.refl _ _) ⟨_, rfl, LitV.sl (xs := [0, 1, 2]) ⟨_, rfl, x2⟩ (by decide)⟩)
    · cases ho
      have hl0 := hall_of hall (j := 0) (by kernel_rfl)
      have hl2 := hall_of hall (j := 23) (by kernel_rfl)
      obtain ⟨s, h14, hs⟩ := hI.facts 23 (by decide) hl2
      replace h14 : t.getD 27 undef = .agg #[s, .int .i64 (2)] := h14
      obtain ⟨b, h12, -, hm, -, -⟩ := hI.map hl0
      replace h12 : t.getD 12 undef = .map (some b) := h12
      obtain ⟨f, m1, m2, m3⟩ := hm.is
      obtain ⟨V', hr, mm, tt⟩ := m1.update (P := Try.prog) (keyOK_int Try.underlying3) Try.underlying57 10 (.agg #[s, .int .i64 (2)])
      go_simp
      exact hK _ _ (hI.ins (p := (24, 10)) (by decide) hl0 h12 ⟨s, rfl, hs⟩ m1 m2 m3 mm tt)
    · cases ho
      have hl0 := hall_of hall (j := 0) (by kernel_rfl)
      obtain ⟨b, h12, -, hm, -, -⟩ := hI.map hl0
      replace h12 : t.getD 12 undef = .map (some b) := h12
      go_simp
      exact hK _ _ (hI.m25 hl0 h12)
    · cases ho
      have hl25 := hall_of hall (j := 25) (by kernel_rfl)
      obtain ⟨hl0, b, h12, h28⟩ := hI.at25 hl25
      replace h12 : t.getD 12 undef = .map (some b) := h12
      replace h28 : t.getD 28 undef = .map (some b) := h28
      go_simp
      exact hK _ _ (hI.m26 hl0 h12)
    · cases ho
  · intro listed a V hI hall
    obtain ⟨b, -, -, hm, -, h26⟩ := hI.map (hall 0 (by decide))
    obtain ⟨t, df⟩ := a
    obtain rfl : df = [] := hI.df
    have h0 : t.getD 0 undef = .map (some b) := h26 (hall 26 (by decide))
    obtain ⟨f, m1, m2, m3⟩ := hm.is
    have hbel := hI.below
    refine hK0 _ _ ?_
    go_wp2
    go_ret
    have hlt : ∀ p ∈ insR, p.1 < 27 := by decide
    exact ⟨b, by rw [h0], (below_drew HB.out).trans (hbel.mono HB.out.size), f, m1, m2, fun p q hp => m3 (p, q) hp (hall p (hlt (p, q) hp))⟩
end Go.Proofs.Ytjhpkikgajgdmaa.K
namespace Go.Proofs.Ytjhpkikgajgdmaa.K
open Go.RowKit Go.Proofs.YtjhpkikgajgdmaaW.PrintWords Go.Proofs.YtjhpkikgajgdmaaW.PrintLast Go.Proofs.YtjhpkikgajgdmaaW.PrintMore
set_option linter.unusedVariables false
set_option linter.unusedSimpArgs false
attribute [local go_sem] Oper.semAt_some
theorem wrapUp {j : Nat} (h : j < 9000000000000000000) : wrap64 ((j : Int) + 1) = ((j + 1 : Nat) : Int) := by unfold wrap64; omega
theorem index_l0 (xs : List Int) (z : Int) (hl : xs.length < 1000000000) : ∀ (d j k : Nat), j + d = xs.length → d < k → ∃ r, slices_Index_int_int.l0 k xs z (xs.length : Int) (j : Int) = some r ∧ decide (r ≥ 0) = (xs.drop j).contains z
  | _, _, 0, _, hk => by omega
  | 0, j, k + 1, h, hk => ⟨-1, by unfold slices_Index_int_int.l0; rw [if_neg (by omega)], by rw [List.drop_eq_nil_of_le (by omega)]; rfl⟩
  | d + 1, j, k + 1, h, hk => by
    have hj : j < xs.length := by omega
    have hrd : rd xs (j : Int) = xs[j] := by unfold rd; rw [Int.toNat_natCast, List.getD_eq_getElem?_getD, List.getElem?_eq_getElem hj]; rfl
    unfold slices_Index_int_int.l0
    rw [if_pos (by omega), if_pos (by omega), if_pos (by omega), hrd, List.drop_eq_getElem_cons hj, List.contains_cons]
    by_cases q : z = xs[j]
    · rw [if_pos q]; exact ⟨_, rfl, by rw [decide_eq_true (by omega), q]; simp⟩
    · rw [if_neg q, wrapUp (by omega)]
      obtain ⟨r, h1, h2⟩ := index_l0 xs z hl d (j + 1) k (by omega) (by omega)
      exact ⟨r, h1, by rw [h2, show (z == xs[j]) = false from beq_eq_false_iff_ne.2 q, Bool.false_or]⟩
theorem contains_any (A : Option Addr) (c : Nat) (xs : List Int) (z : Int) (W : World) (hr : Kd.C (Kd.int .i64) W A xs.length xs) (hc : xs.length ≤ c) (hl : xs.length < 1000000000) :
    Calls Try.prog 25 #[.slice A xs.length c, .int .i64 z] W fun e w' => e = .returned (.bool (xs.contains z)) ∧ Below W.heap.size W w' := by
  obtain ⟨r, h1, h2⟩ := index_l0 xs z hl xs.length 0 (xs.length + 1) (by omega) (by omega)
  rw [List.drop_zero] at h2
  have hf : slices_Contains_int_int.f (xs.length + 1) xs z = some (xs.contains z) := by
    unfold slices_Contains_int_int.f slices_Index_int_int.f
    rw [show slices_Index_int_int.l0 (xs.length + 1) xs z (xs.length : Int) 0 = some r from h1, Option.bind_some, h2]
  exact (slices_Contains_int_int.calls _ A c xs z _ W hr hc hf).mono fun e w' h => ⟨h.1, h.2.below⟩
end Go.Proofs.Ytjhpkikgajgdmaa.K
namespace Go.Proofs.Ytjhpkikgajgdmaa.K
open Go.RowKit Go.Proofs.YtjhpkikgajgdmaaW.PrintWords Go.Proofs.YtjhpkikgajgdmaaW.PrintLast Go.Proofs.YtjhpkikgajgdmaaW.PrintMore
set_option linter.unusedVariables false
set_option linter.unusedSimpArgs false
attribute [local go_sem] Oper.semAt_some

def mayB (k j : Int) : Bool := decide (j ∈ (roomK k).1)
def aroundP (k : Int) : Int := if k ∈ keysR then (roomK k).2 else -1
theorem roomK_none {k : Int} (h : k ∉ keysR) : roomK k = ([], 0) := by
  unfold keysR at h
  simp only [List.mem_cons, List.not_mem_nil, or_false, not_or] at h
  unfold roomK
  rw [if_neg (by omega), if_neg (by omega), if_neg (by omega), if_neg (by omega), if_neg (by omega)]
theorem room_len (k : Int) : (roomK k).1.length ≤ 11 := by
  unfold roomK
  repeat' split
  all_goals decide
theorem key_ins {k : Int} (h : k ∈ keysR) : ∃ p ∈ insR, p.2 = k := by
  revert k
  decide
def z56 : Value := .agg #[.slice none 0 0, .int .i64 0]
/-- what a look-up yields -/
theorem room_look {f : Int → Option Value} {W : World} (h2 : ∀ k v, f k = some v → k ∈ keysR ∧ RoomV k v W) (h3 : ∀ p ∈ insR, (f p.2).isSome = true) (k : Int) : RoomV k ((f k).getD z56) W ∧ (f k).isSome = decide (k ∈ keysR) := by
  cases hf : f k with
  | some v =>
    obtain ⟨hk, hv⟩ := h2 k v hf
    exact ⟨hv, (decide_eq_true hk).symm⟩
  | none =>
    have hk : k ∉ keysR := fun hk => by
      obtain ⟨p, hp, rfl⟩ := key_ins hk
      have := h3 p hp
      rw [hf] at this
      cases this
    refine ⟨⟨.slice none 0 0, by rw [roomK_none hk]; rfl, ?_⟩, (decide_eq_false hk).symm⟩
    rw [roomK_none hk]
    exact ⟨none, 0, rfl, Nat.le_refl _, Kd.C_nil _ _⟩
theorem field_kids (A : Option Addr) (n c : Nat) (m : Int) (W : World) : (Instr.field 56 (.agg #[.slice A n c, .int .i64 m]) 0).run Try.prog W = .ok (.slice A n c) W := by kernel_rfl
set_option maxRecDepth 100000 in
set_option maxHeartbeats 4000000 in
theorem may_any (k j : Int) (w : World) : Calls Try.prog 11 #[.int .i64 k, .int .i64 j] w fun e w' => e = .returned (.bool (mayB k j)) ∧ Below w.heap.size w w' := by
  unfold mayB
  go_enter Try.func11, Try.ntmps11
  go_wp2_with (first
    | (go_at_call 26; refine (rooms_any _).mono ?_; rintro e w1 ⟨b, rfl, hb, f, m1, m2, m3⟩; have hl := m1.lookup (P := Try.prog) (keyOK_int Try.underlying3) Try.underlying57 (z := z56) (by kernel_rfl) k; obtain ⟨⟨s, hs, A, c, rfl, hc, hC⟩, -⟩ := room_look m2 m3 k; rw [hs] at hl; have hfd := field_kids A (roomK k).1.length c (roomK k).2 w1; have HB := Lib.hid hb; have HC := Lib.hid hC; have HL := Lib.hid hc; clear hb m1 m2 m3 hs hc hC)
    | (go_at_call 25; refine (contains_any A c (roomK k).1 j _ HC.out HL.out (by have := room_len k; omega)).mono ?_; rintro e w2 ⟨rfl, hb⟩; have HB2 := Lib.hid (below_then HB.out HB.out.size hb); clear hb HB HC HL))
  go_ret
  exact ⟨rfl, HB2.out⟩
def fixup_May.f (a0 : Int) (a1 : Int) : Option (Bool) := some (mayB a0 a1)
theorem fixup_May.calls (a0 : Int) (a1 : Int) (r : Bool) (w : World) (h : fixup_May.f a0 a1 = some r) :
    Calls Try.prog 11 #[.int .i64 a0, .int .i64 a1] w fun e w' => e = .returned (.bool r) ∧ Below w.heap.size w w' := by
  obtain rfl := Option.some.inj h
  exact may_any a0 a1 w
theorem field_around (s : Value) (hs : ∃ A n c, s = .slice A n c) (m : Int) (W : World) : (Instr.field 56 (.agg #[s, .int .i64 m]) 1).run Try.prog W = .ok (.int .i64 m) W := by
  obtain ⟨A, n, c, rfl⟩ := hs
  kernel_rfl
set_option maxRecDepth 100000 in
set_option maxHeartbeats 4000000 in
theorem around_any (k : Int) (w : World) : Calls Try.prog 13 #[.int .i64 k] w fun e w' => e = .returned (.int .i64 (aroundP k)) ∧ Below w.heap.size w w' := by
  by_cases hk : k ∈ keysR
  · have ha : aroundP k = (roomK k).2 := if_pos hk
    rw [ha]
    have hdk : decide (k ∈ keysR) = true := decide_eq_true hk
    clear ha hk
    go_enter Try.func13, Try.ntmps13
    go_wp2_with (go_at_call 26; refine (rooms_any _).mono ?_; rintro e w1 ⟨b, rfl, hb, f, m1, m2, m3⟩; have hl := m1.lookup_ok (P := Try.prog) (keyOK_int Try.underlying3) Try.underlying57 (z := z56) (by kernel_rfl) k; obtain ⟨⟨s, hs, A, c, rfl, hc, hC⟩, hsm⟩ := room_look m2 m3 k; rw [hs, hsm, hdk] at hl; have HB := Lib.hid hb; clear hb m1 m2 m3 hs hsm hc hC)
    go_ret
    exact ⟨rfl, HB.out.alloc HB.out.size _⟩
  · have ha : aroundP k = -1 := if_neg hk
    rw [ha]
    have hdk : decide (k ∈ keysR) = false := decide_eq_false hk
    clear ha hk
    go_enter Try.func13, Try.ntmps13
    go_wp2_with (go_at_call 26; refine (rooms_any _).mono ?_; rintro e w1 ⟨b, rfl, hb, f, m1, m2, m3⟩; have hl := m1.lookup_ok (P := Try.prog) (keyOK_int Try.underlying3) Try.underlying57 (z := z56) (by kernel_rfl) k; obtain ⟨⟨s, hs, A, c, rfl, hc, hC⟩, hsm⟩ := room_look m2 m3 k; rw [hs, hsm, hdk] at hl; have HB := Lib.hid hb; clear hb m1 m2 m3 hs hsm hc hC)
    go_ret
    exact ⟨rfl, HB.out.alloc HB.out.size _⟩
def fixup_Around.f (a0 : Int) : Option (Int) := some (aroundP a0)
theorem fixup_Around.calls (a0 : Int) (r : Int) (w : World) (h : fixup_Around.f a0 = some r) :
    Calls Try.prog 13 #[.int .i64 a0] w fun e w' => e = .returned (.int .i64 r) ∧ Below w.heap.size w w' := by
  obtain rfl := Option.some.inj h
  exact around_any a0 w
end Go.Proofs.Ytjhpkikgajgdmaa.K
