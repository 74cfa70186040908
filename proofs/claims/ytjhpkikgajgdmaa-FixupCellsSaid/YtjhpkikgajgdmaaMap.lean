/- Maps that the program makes: what they hold, as a function; look-up and store at keys of a known form. No program in sight. -/
import Derived.MapKept
import Derived.RangeFuncRecord
import Derived.Below
import Derived.WalkKit
import Derived.Carry
namespace Go.Proofs.Ytjhpkikgajgdmaa
open Go.RowKit
set_option linter.unusedVariables false
set_option linter.unusedSimpArgs false

theorem get_map {P : Program} {w : World} {r : Nat} {es : Array MapEntry} {clock : Nat} (hb : w.heap[r]? = some (.map es clock)) : (getObj r).run P w = .ok (.map es clock) w := by
  simp [getObj, Sem.run, hb]
theorem set_map {P : Program} {w : World} {r : Nat} {es : Array MapEntry} {clock : Nat} (o : Obj) (hb : w.heap[r]? = some (.map es clock)) : (setObj r o).run P w = .ok () (w.putObj r o) := by
  simp [setObj, Sem.run, hb, World.putObj]

/-- keys that can be told apart -/
structure KeyOK (P : Program) (kt : TypeId) {α : Type} [DecidableEq α] (key : α → Value) : Prop where
  check : ∀ w e a, (Instr.checkKey e 10000 kt (key a)).run P w = .ok () w
  find : ∀ w a (es : List MapEntry) (ks : List α), es.map (·.key) = ks.map key → (Instr.findKey kt (key a) es).run P w = .ok ((ks.findIdx? (fun x => decide (a = x))).map fun i => (i, ((es[i]?).map (·.val)).getD undef)) w
  same : ∀ a, Instr.sameBits 10000 (key a) (key a) = true

/-- block b is a map that holds f -/
def MapIs {α : Type} [DecidableEq α] (key : α → Value) (w : World) (b : Nat) (f : α → Option Value) : Prop :=
  ∃ (es : Array MapEntry) (clock : Nat) (ks : List α), w.heap[b]? = some (.map es clock) ∧ es.toList.map (·.key) = ks.map key ∧
    ∀ a, f a = (ks.findIdx? (fun x => decide (a = x))).map fun i => ((es.toList[i]?).map (·.val)).getD undef

section
variable {P : Program} {α : Type} [DecidableEq α] {key : α → Value} {w w' : World} {b : Nat} {f : α → Option Value}
theorem MapIs.lt (h : MapIs key w b f) : b < w.heap.size := by
  obtain ⟨es, c, ks, hb, -⟩ := h
  exact (Array.getElem?_eq_some_iff.1 hb).1
theorem MapIs.move (h : MapIs key w b f) (he : w'.heap[b]? = w.heap[b]?) : MapIs key w' b f := by
  obtain ⟨es, c, ks, hb, h1, h2⟩ := h
  exact ⟨es, c, ks, he.trans hb, h1, h2⟩
theorem MapIs.alloc (h : MapIs key w b f) (o : Obj) : MapIs key (w.alloc o) b f := h.move (Below.heap_alloc w o b h.lt)
theorem MapIs.setCell (h : MapIs key w b f) {p : Addr} (hp : b ≠ p.block) (v : Value) : MapIs key (w.setCell p v) b f := h.move (heap_setCell_other w p b v hp)
theorem MapIs.drew (h : MapIs key w b f) : MapIs key w.drew b f := h
theorem MapIs.below {B : Nat} (h : MapIs key w b f) (hb : Below B w w') (hB : b < B) : MapIs key w' b f := h.move (hb.block b hB)
theorem MapIs.grown (h : MapIs key w b f) {row : Option Nat} (hg : w.grownBy w' row) (hne : some b ≠ row) : MapIs key w' b f := h.move (hg.block b h.lt hne)
theorem MapIs.made (w : World) : MapIs key (w.alloc (.map #[] 0)) w.heap.size (fun _ => none) :=
  ⟨#[], 0, [], World.alloc_heap_new w _, rfl, fun a => rfl⟩

/-- the map's block is turned; no cell is -/
structure MapTurned (w w' : World) (b : Nat) : Prop where
  size : w'.heap.size = w.heap.size
  other : ∀ k, k ≠ b → w'.heap[k]? = w.heap[k]?
  cell : ∀ a, w'.cell? a = w.cell? a
  frozen : ∀ a, w'.frozen? a = w.frozen? a
  os : w'.os = w.os
  tape : w'.tape = w.tape
  output : w'.output = w.output
theorem MapTurned.below {n : Nat} {w0 : World} (h : MapTurned w w' b) (hb : Below n w0 w) (hn : n ≤ b) : Below n w0 w' :=
  ⟨h.os.trans hb.os, h.tape.trans hb.tape, h.output.trans hb.output, by rw [h.size]; exact hb.size, fun k hk => (h.other k (by omega)).trans (hb.block k hk)⟩
theorem mapTurned_put {es es' : Array MapEntry} {c c' : Nat} (hb : w.heap[b]? = some (.map es c)) : MapTurned w (w.putObj b (.map es' c')) b := by
  have hlt := (Array.getElem?_eq_some_iff.1 hb).1
  refine ⟨by simp, fun k hk => World.putObj_heap_other hk, fun a => ?_, fun a => ?_, rfl, rfl, rfl⟩
  · by_cases e : a.block = b
    · unfold World.cell?; rw [e, World.putObj_heap_same hlt, hb]
    · unfold World.cell?; rw [World.putObj_heap_other e]
  · by_cases e : a.block = b
    · unfold World.frozen?; rw [e, World.putObj_heap_same hlt, hb]
    · unfold World.frozen?; rw [World.putObj_heap_other e]

theorem MapIs.lookup {kt t e : TypeId} (h : MapIs key w b f) (K : KeyOK P kt key) (ht : P.underlying t = some (.map kt e)) {z : Value} (hz : (zeroValue e).run P w = .ok z w) (a : α) :
    (Instr.lookup t (.map (some b)) (key a) false).run P w = .ok ((f a).getD z) w := by
  obtain ⟨es, c, ks, hb, hk, hf⟩ := h
  unfold Instr.lookup
  simp only [Sem.run_bind, run_underlying ht, Result.andThen, get_map hb, Sem.run_pure, K.check, K.find w a es.toList ks hk]
  cases hi : ks.findIdx? (fun x => decide (a = x)) with
  | none => simp [hz, hf a, hi, Sem.run_bind, Result.andThen]
  | some i => simp [hf a, hi, Sem.run_pure]

theorem MapIs.lookup_ok {kt t e : TypeId} (h : MapIs key w b f) (K : KeyOK P kt key) (ht : P.underlying t = some (.map kt e)) {z : Value} (hz : (zeroValue e).run P w = .ok z w) (a : α) :
    (Instr.lookup t (.map (some b)) (key a) true).run P w = .ok (.tuple #[(f a).getD z, .bool (f a).isSome]) w := by
  obtain ⟨es, c, ks, hb, hk, hf⟩ := h
  unfold Instr.lookup
  simp only [Sem.run_bind, run_underlying ht, Result.andThen, get_map hb, Sem.run_pure, K.check, K.find w a es.toList ks hk]
  cases hi : ks.findIdx? (fun x => decide (a = x)) with
  | none => simp [hz, hf a, hi, Sem.run_bind, Result.andThen]
  | some i => simp [hf a, hi, Sem.run_pure]

/-- f with k told anew -/
def upd (f : α → Option Value) (k : α) (v : Value) : α → Option Value := fun a => if a = k then some v else f a

theorem MapIs.update {kt t e : TypeId} (h : MapIs key w b f) (K : KeyOK P kt key) (ht : P.underlying t = some (.map kt e)) (k : α) (v : Value) :
    ∃ w', (Instr.mapUpdate t (.map (some b)) (key k) v).run P w = .ok () w' ∧ MapIs key w' b (upd f k v) ∧ MapTurned w w' b := by
  obtain ⟨es, c, ks, hb, hk, hf⟩ := h
  have hlt := (Array.getElem?_eq_some_iff.1 hb).1
  have hlen : es.toList.length = ks.length := by have := congrArg List.length hk; simpa using this
  cases hi : ks.findIdx? (fun x => decide (k = x)) with
  | none =>
    refine ⟨w.putObj b (.map (es.push { key := key k, val := v, born := c }) (c + 1)), ?_, ?_, mapTurned_put hb⟩
    · unfold Instr.mapUpdate
      simp only [Sem.run_bind, run_underlying ht, Result.andThen, get_map hb, K.check, K.find w k es.toList ks hk, hi, Option.map_none]
      exact set_map _ hb
    · refine ⟨es.push { key := key k, val := v, born := c }, c + 1, ks ++ [k], World.putObj_heap_same hlt, by simp [hk], fun a => ?_⟩
      have hno : ∀ x ∈ ks, ¬ k = x := by
        have := List.findIdx?_eq_none_iff.1 hi
        simpa using this
      unfold upd
      rw [List.findIdx?_append]
      by_cases e : a = k
      · subst e
        rw [hi]
        simp [List.findIdx?_cons, hlen.symm]
      · rw [if_neg e, hf a]
        cases hj : ks.findIdx? (fun x => decide (a = x)) with
        | none => simp [List.findIdx?_cons, e]
        | some j =>
          obtain ⟨hjl, -, -⟩ := List.findIdx?_eq_some_iff_getElem.1 hj
          have : j < es.toList.length := by omega
          simp [List.getElem?_append_left this]
  | some i =>
    obtain ⟨hil, hki, hbefore⟩ := List.findIdx?_eq_some_iff_getElem.1 hi
    have hki' : k = ks[i] := by simpa using hki
    have hie : i < es.size := by have := hlen; simp at this; omega
    have hkey : (es[i]).key = key k := by
      have h1 : (es.toList.map (·.key))[i]? = (ks.map key)[i]? := by rw [hk]
      simp [hie, hil] at h1
      rw [h1, ← hki']
    refine ⟨w.putObj b (.map (es.modify i fun e => { e with key := key k, val := v }) c), ?_, ?_, mapTurned_put hb⟩
    · unfold Instr.mapUpdate
      simp only [Sem.run_bind, run_underlying ht, Result.andThen, get_map hb, K.check, K.find w k es.toList ks hk, hi, Option.map_some]
      have hs : (Instr.keyThatStays (key k) (key k)).run P w = .ok (key k) w := by
        unfold Instr.keyThatStays
        rw [K.same k]
        simp [Sem.run_pure]
      rw [show ((es[i]?.map (·.key)).getD (key k)) = key k by simp [hie, hkey], hs]
      exact set_map _ hb
    · refine ⟨es.modify i fun e => { e with key := key k, val := v }, c, ks, World.putObj_heap_same hlt, ?_, fun a => ?_⟩
      · rw [← hk]
        apply List.ext_getElem?
        intro j
        simp only [List.getElem?_map, Array.getElem?_toList, Array.getElem?_modify]
        by_cases e : i = j
        · subst e; simp [hie, hkey]
        · simp [e]
      · unfold upd
        by_cases e : a = k
        · subst e
          rw [if_pos rfl, hi]
          simp [Array.getElem?_modify, hie]
        · rw [if_neg e, hf a]
          cases hj : ks.findIdx? (fun x => decide (a = x)) with
          | none => rfl
          | some j =>
            have hne : i ≠ j := by
              rintro rfl
              obtain ⟨_, h3, _⟩ := List.findIdx?_eq_some_iff_getElem.1 hj
              have h4 : a = ks[i] := by simpa using h3
              exact e (h4.trans hki'.symm)
            simp [Array.getElem?_modify, hne]
end

theorem findNow_of {d : TypeDesc} {α : Type} [DecidableEq α] {key : α → Value} (hs : ∀ a c, Instr.sameNow d (key a) (key c) = some (decide (a = c))) (a : α) :
    ∀ (es : List MapEntry) (ks : List α) (n : Nat), es.map (·.key) = ks.map key → Instr.findNow d (key a) es n = some ((ks.findIdx? (fun x => decide (a = x))).map fun i => (i + n, ((es[i]?).map (·.val)).getD undef))
  | [], [], n, _ => rfl
  | [], _ :: _, n, h => by simp at h
  | _ :: _, [], n, h => by simp at h
  | e :: es, k :: ks, n, h => by
    simp only [List.map_cons, List.cons.injEq] at h
    unfold Instr.findNow
    rw [h.1, hs a k]
    by_cases hk : a = k
    · subst hk
      simp [List.findIdx?_cons]
    · have ih := findNow_of hs a es ks (n + 1) h.2
      simp only [hk, decide_false]
      rw [ih, List.findIdx?_cons]
      simp only [hk, decide_false, Bool.false_eq_true, if_false]
      cases ks.findIdx? (fun x => decide (a = x)) with
      | none => rfl
      | some i => simp; omega

theorem findAsking_of {P : Program} {kt : TypeId} {α : Type} [DecidableEq α] {key : α → Value} {w : World} (hq : ∀ a c, (Op.equal kt (key a) (key c)).run P w = .ok (decide (a = c)) w) (a : α) :
    ∀ (es : List MapEntry) (ks : List α) (n : Nat), es.map (·.key) = ks.map key → (Instr.findAsking kt (key a) es n).run P w = .ok ((ks.findIdx? (fun x => decide (a = x))).map fun i => (i + n, ((es[i]?).map (·.val)).getD undef)) w
  | [], [], n, _ => rfl
  | [], _ :: _, n, h => by simp at h
  | _ :: _, [], n, h => by simp at h
  | e :: es, k :: ks, n, h => by
    simp only [List.map_cons, List.cons.injEq] at h
    unfold Instr.findAsking
    rw [Sem.run_bind, h.1, hq a k, List.findIdx?_cons]
    simp only [Result.andThen]
    by_cases hk : a = k
    · subst hk
      simp [Sem.run_pure]
    · have ih := findAsking_of hq a es ks (n + 1) h.2
      simp only [hk, decide_false, Bool.false_eq_true, if_false]
      rw [ih]
      cases ks.findIdx? (fun x => decide (a = x)) with
      | none => rfl
      | some i => simp; omega

/-- keys that are compared by '==' -/
theorem keyOK_asks {P : Program} {kt : TypeId} {d : TypeDesc} {α : Type} [DecidableEq α] {key : α → Value} (ht : P.underlying kt = some d) (hd : ∀ a c, Instr.sameNow d (key a) (key c) = none)
    (hq : ∀ a c w, (Op.equal kt (key a) (key c)).run P w = .ok (decide (a = c)) w) (hc : ∀ w e a, (Instr.checkKey e 10000 kt (key a)).run P w = .ok () w) (hs : ∀ a, Instr.sameBits 10000 (key a) (key a) = true) : KeyOK P kt key where
  check := hc
  same := hs
  find w a es ks h := by
    unfold Instr.findKey
    rw [Sem.run_bind, run_underlying ht]
    simp only [Result.andThen]
    match es, ks, h with
    | [], [], _ => rfl
    | e :: es, k :: ks, h =>
      have h' := h
      simp only [List.map_cons, List.cons.injEq] at h'
      have : Instr.findNow d (key a) (e :: es) 0 = none := by
        unfold Instr.findNow
        rw [h'.1, hd a k]
      rw [this]
      have := findAsking_of (w := w) (fun a c => hq a c w) a (e :: es) (k :: ks) 0 h
      simpa using this

/-- whole numbers as keys -/
theorem keyOK_int {P : Program} {kt : TypeId} {k : IntKind} (ht : P.underlying kt = some (.int k)) : KeyOK P kt (Value.int k) where
  check w e a := by
    unfold Instr.checkKey
    simp [Sem.run_bind, run_underlying ht, Result.andThen, Sem.run_pure]
  find w a es ks h := by
    have := findNow_of (d := .int k) (key := Value.int k) (fun a c => by simp [Instr.sameNow]; rfl) a es ks 0 h
    exact MapKept.run_findKey ht this
  same a := by simp [Instr.sameBits]
end Go.Proofs.Ytjhpkikgajgdmaa
