/- Layer 6: Rows. -/
import Derived.Test.YtdmnaehgngpikaaTrB
import Derived.Test.YtdmnaehgngpikaaLaB
namespace Go.Proofs.Ytdmnaehgngpikaa
open Go Go.RowKit
set_option linter.unusedVariables false
set_option linter.unusedSimpArgs false
section
variable {F : Fence} {n : Nat} {P : Program} {ops : Array Oper} {Q : Exit → Act → World → Prop} {md : Region.Mode}
/-- how many of the first k aren't listed -/
def cntU (listed : Array Bool) : Nat → Nat
  | 0 => 0
  | k + 1 => cntU listed k + (if listed.getD k true then 0 else 1)
theorem cntU_same {listed : Array Bool} {i : Nat} : ∀ k, k ≤ i → cntU (listed.setIfInBounds i true) k = cntU listed k
  | 0, _ => rfl
  | k + 1, h => by
    unfold cntU
    rw [cntU_same k (by omega), getD_set_ne true (by omega)]
theorem cntU_set {listed : Array Bool} {i : Nat} (hu : listed.getD i true = false) : ∀ k, i < k → cntU (listed.setIfInBounds i true) k + 1 = cntU listed k
  | 0, h => by omega
  | k + 1, h => by
    unfold cntU
    by_cases e : i = k
    · subst e
      have hlt : i < listed.size := by
        rcases Nat.lt_or_ge i listed.size with h' | h'
        · exact h'
        · simp [Array.getElem?_eq_none h'] at hu
      rw [cntU_same i (Nat.le_refl _), hu, show (listed.setIfInBounds i true).getD i true = true by simp [hlt]]
      simp
    · have := cntU_set hu k (by omega)
      rw [getD_set_ne true e]
      omega
theorem cntU_zero {listed : Array Bool} : ∀ k, cntU listed k = 0 → ∀ e, e < k → listed.getD e true = true
  | 0, _, e, he => by omega
  | k + 1, h, e, he => by
    unfold cntU at h
    by_cases q : e = k
    · subst q
      cases hh : listed.getD e true with
      | true => rfl
      | false => rw [hh] at h; simp at h
    · exact cntU_zero k (by omega) e (by omega)
theorem cntU_pos {listed : Array Bool} : ∀ k, cntU listed k ≠ 0 → ∃ i, i < k ∧ listed.getD i true = false ∧ ∀ e, e < i → listed.getD e true = true
  | 0, h => absurd rfl h
  | k + 1, h => by
    by_cases q : cntU listed k = 0
    · unfold cntU at h
      rw [q] at h
      refine ⟨k, by omega, ?_, cntU_zero k q⟩
      cases hh : listed.getD k true with
      | true => rw [hh] at h; simp at h
      | false => rfl
    · obtain ⟨i, h1, h2, h3⟩ := cntU_pos k q
      exact ⟨i, by omega, h2, h3⟩
theorem cntU_all {m : Nat} : ∀ k, k ≤ m → cntU (Array.replicate m false) k = k
  | 0, _ => rfl
  | k + 1, h => by
    unfold cntU
    rw [cntU_all k (by omega), show (Array.replicate m false).getD k true = false by simp [show k < m by omega]]
    simp
/-- what is known when some of the first k are listed -/
structure FactI (k : Nat) (d : Nat → Tmp) (Fa : Nat → Value → World → Prop) (D : Nat → Nat → Value → Value → Prop) (a0 : Act) (w0 : World) (listed : Array Bool) (a : Act) (w : World) : Prop where
  size : a.tmps.size = a0.tmps.size
  defers : a.defers = a0.defers
  facts : ∀ e, e < k → listed.getD e true = true → Fa e (a.tmps.getD (d e) undef) w
  apart : ∀ e i, e < k → i < k → e ≠ i → listed.getD e true = true → listed.getD i true = true → D e i (a.tmps.getD (d e) undef) (a.tmps.getD (d i) undef) ∨ D i e (a.tmps.getD (d i) undef) (a.tmps.getD (d e) undef)
  other : ∀ j, (∀ e, e < k → d e ≠ j) → a.tmps.getD j undef = a0.tmps.getD j undef
  below : Below w0.heap.size w0 w
/-- what operation number i does, whatever was done between -/
def FactOp (F : Fence) (n : Nat) (P : Program) (md : Region.Mode) (ops : Array Oper) (Q : Exit → Act → World → Prop) (k : Nat) (d : Nat → Tmp) (Fa : Nat → Value → World → Prop) (D : Nat → Nat → Value → Value → Prop) (a0 : Act) (w0 : World) (i : Nat) (o : Oper) : Prop :=
  ∀ (a : Act) (w : World), a.defers = a0.defers → (∀ e, e < k → waitsB md ops i e = true → Fa e (a.tmps.getD (d e) undef) w) → (∀ j, (∀ e, e < k → d e ≠ j) → a.tmps.getD j undef = a0.tmps.getD j undef) → Below w0.heap.size w0 w →
    ∀ K : Act → World → Prop, (∀ v w', Below w.heap.size w w' → Fa i v w' → (∀ e u, e < k → e ≠ i → Fa e u w → D i e v u) → K (a.put (some (d i)) v) w') → Oper.wpIn F n P o a w K Q
/-- number j awaits number i, by way of others too -/
def needT (md : Region.Mode) (ops : Array Oper) : Nat → Nat → Nat → Bool
  | 0, j, i => waitsB md ops j i
  | f + 1, j, i => waitsB md ops j i || (List.range ops.size).any fun m => waitsB md ops j m && needT md ops f m i
theorem waits_listed {listed : Array Bool} {j i : Nat} (hj : j ∈ Region.ready md ops listed) (h : waitsB md ops j i = true) : listed.getD i false = true := by
  obtain ⟨-, o, ho, hall⟩ := mem_ready.1 hj
  unfold waitsB at h
  rw [ho] at h
  obtain ⟨e, he, hb⟩ := Array.any_eq_true'.1 h
  simp only [Bool.and_eq_true, beq_iff_eq] at hb
  rw [← hb.2]; exact hall e he hb.1
theorem need_listed {listed : Array Bool} (hcl : ∀ e, listed.getD e false = true → ∀ i, waitsB md ops e i = true → listed.getD i false = true) : ∀ (f j i : Nat), needT md ops f j i = true → (∀ m, waitsB md ops j m = true → listed.getD m false = true) → listed.getD i false = true
  | 0, j, i, h, hj => hj i h
  | f + 1, j, i, h, hj => by
    unfold needT at h
    rw [Bool.or_eq_true] at h
    rcases h with h | h
    · exact hj i h
    · obtain ⟨m, -, hm⟩ := List.any_eq_true.1 h
      rw [Bool.and_eq_true] at hm
      exact need_listed hcl f m i hm.2 (hcl m (hj m hm.1))
/-- the first k hang on earlier ones alone, none is guarded, each has its slot; the others hang on all of these -/
def factsB (md : Region.Mode) (ops : Array Oper) (k : Nat) (d : Nat → Tmp) (slots : Nat) : Bool :=
  ((List.range k).all fun i => (match ops[i]? with
    | some o => o.dst == some (d i) && o.guard.isNone && o.after.all (fun e => e.on < i) && decide (d i < slots)
    | none => false) && (List.range k).all fun j => i == j || !(d i == d j)) &&
  (List.range ops.size).all fun j => decide (j < k) || (List.range k).all fun i => needT md ops 2 j i
theorem wanted_none {o : Oper} (h : o.guard.isNone = true) (y : Nat → Option Bool) : Region.wanted o y = true := by
  cases hg : o.guard with
  | none => simp [Region.wanted, hg]
  | some g => rw [hg] at h; cases h
theorem factsB_one {k : Nat} {d : Nat → Tmp} {slots : Nat} (h : factsB md ops k d slots = true) {i : Nat} (hi : i < k) : ∃ o, ops[i]? = some o ∧ o.dst = some (d i) ∧ o.guard.isNone = true ∧ (∀ e ∈ o.after, e.on < i) ∧ d i < slots ∧ ∀ j, j < k → j ≠ i → d i ≠ d j := by
  unfold factsB at h
  simp only [Bool.and_eq_true, List.all_eq_true, List.mem_range] at h
  have h1 := h.1 i hi
  cases ho : ops[i]? with
  | none => rw [ho] at h1; simp at h1
  | some o =>
    rw [ho] at h1
    simp only [Bool.and_eq_true, beq_iff_eq, decide_eq_true_eq, Bool.or_eq_true, Bool.not_eq_true', beq_eq_false_iff_ne, Array.all_eq_true_iff_forall_mem] at h1
    exact ⟨o, rfl, h1.1.1.1.1, h1.1.1.1.2, h1.1.1.2, h1.1.2, fun j hj hji => (h1.2 j hj).resolve_left (Ne.symm hji)⟩
theorem factsB_two {k : Nat} {d : Nat → Tmp} {slots : Nat} (h : factsB md ops k d slots = true) {j i : Nat} (hj : k ≤ j) (hjs : j < ops.size) (hi : i < k) : needT md ops 2 j i = true := by
  unfold factsB at h
  simp only [Bool.and_eq_true, List.all_eq_true, List.mem_range] at h
  have h2 := h.2 j hjs
  simp only [Bool.or_eq_true, decide_eq_true_eq, List.all_eq_true, List.mem_range] at h2
  exact (h2.resolve_left (by omega)) i hi
theorem wpAnyIn_facts {k : Nat} {d : Nat → Tmp} {Fa : Nat → Value → World → Prop} {D : Nat → Nat → Value → Value → Prop} {a0 : Act} {w0 : World} (hk : k ≤ ops.size) (hb : factsB md ops k d a0.tmps.size = true)
    (hF : ∀ i v W W', i < k → Fa i v W → Below W.heap.size W W' → Fa i v W')
    (hop : ∀ i o, i < k → ops[i]? = some o → FactOp F n P md ops Q k d Fa D a0 w0 i o)
    (hfin : ∀ a w, FactI k d Fa D a0 w0 (Array.replicate k true ++ Array.replicate (ops.size - k) false) a w → wpAnyIn F n P md ops Q (ops.size - k) (Array.replicate k true ++ Array.replicate (ops.size - k) false) a w) :
    ∀ (m : Nat) (listed : Array Bool) (a : Act) (w : World), cntU listed k = m → listed.size = ops.size → (∀ j, k ≤ j → j < ops.size → listed.getD j true = false) → (∀ e, listed.getD e false = true → ∀ i, waitsB md ops e i = true → listed.getD i false = true) → FactI k d Fa D a0 w0 listed a w → wpAnyIn F n P md ops Q (m + (ops.size - k)) listed a w
  | 0, listed, a, w, hm, hs, hl, hcl, hI => by
    have e : listed = Array.replicate k true ++ Array.replicate (ops.size - k) false := by
      apply Array.ext
      · simp; omega
      · intro j h1 h2
        by_cases q : j < k
        · have := cntU_zero k hm j q
          rw [Array.getElem_append_left (by simpa using q), Array.getElem_replicate]
          simpa [h1] using this
        · have := hl j (by omega) (by omega)
          rw [Array.getElem_append_right (by simpa using q), Array.getElem_replicate]
          simpa [h1] using this
    subst e
    rw [Nat.zero_add]
    exact hfin a w hI
  | m + 1, listed, a, w, hm, hs, hl, hcl, hI => by
    rw [show m + 1 + (ops.size - k) = (m + (ops.size - k)) + 1 by omega]
    obtain ⟨i0, h01, h02, h03⟩ := cntU_pos (listed := listed) k (by omega)
    refine ⟨fun hr => ?_, fun i hi => ?_⟩
    · obtain ⟨o, ho, -, -, ha, -, -⟩ := factsB_one hb h01
      have : i0 ∈ Region.ready md ops listed := mem_ready.2 ⟨h02, o, ho, fun e he _ => by
        have h1 := ha e he
        have h2 := h03 e.on h1
        have h3 : e.on < listed.size := by omega
        simpa [h3] using h2⟩
      rw [hr] at this; cases this
    · obtain ⟨hu, o, ho, hall⟩ := mem_ready.1 hi
      have his : i < ops.size := (Array.getElem?_eq_some_iff.1 ho).1
      by_cases q : i < k
      · obtain ⟨o', ho', hdst, hg, ha, hds, hinj⟩ := factsB_one hb q
        obtain rfl : o' = o := Option.some.inj (ho'.symm.trans ho)
        have hon : ∀ e : Nat, listed.getD e false = true → listed.getD e true = true := fun e h => by
          rcases Nat.lt_or_ge e listed.size with h' | h'
          · simpa [h'] using h
          · simp [Array.getElem?_eq_none h']
        have hlt : i < listed.size := by omega
        unfold wpOpIn
        rw [ho]
        dsimp only
        rw [if_pos (wanted_none hg _)]
        refine hop i o' q ho a w hI.defers (fun e he hw => hI.facts e he ?_) hI.other hI.below _ (fun v w' hB hFv hD => ?_)
        · unfold waitsB at hw
          rw [ho] at hw
          obtain ⟨x, hx, hxb⟩ := Array.any_eq_true'.1 hw
          simp only [Bool.and_eq_true, beq_iff_eq] at hxb
          have := hall x hx hxb.1
          rw [hxb.2] at this
          exact hon e this
        · have hput : ∀ j, j ≠ d i → (a.put (some (d i)) v).tmps.getD j undef = a.tmps.getD j undef := fun j hj => by
            show (a.tmps.setIfInBounds (d i) v).getD j undef = _
            simp [Array.getElem?_setIfInBounds_ne (Ne.symm hj)]
          have hself : (a.put (some (d i)) v).tmps.getD (d i) undef = v := by
            have : d i < a.tmps.size := by rw [hI.size]; exact hds
            show (a.tmps.setIfInBounds (d i) v).getD (d i) undef = _
            simp [this]
          have hne : ∀ e, e < k → e ≠ i → d e ≠ d i := fun e he hei => fun hh => hinj e he hei hh.symm
          have hls : ∀ e, e ≠ i → (listed.setIfInBounds i true).getD e true = listed.getD e true := fun e he => getD_set_ne true (Ne.symm he)
          refine wpAnyIn_facts hk hb hF hop hfin m (listed.setIfInBounds i true) _ w' (by have := cntU_set hu k q; omega) (by simpa using hs) (fun j h1 h2 => by rw [hls j (by omega)]; exact hl j h1 h2) (fun e he j hw => ?_) ⟨?_, hI.defers, ?_, ?_, ?_, hI.below.trans (hB.mono hI.below.size)⟩
          · refine getD_set_true ?_
            by_cases qe : e = i
            · subst qe; exact waits_listed hi hw
            · exact hcl e (by rw [getD_set_ne false (Ne.symm qe)] at he; exact he) j hw
          · show (a.tmps.setIfInBounds (d i) v).size = _
            rw [Array.size_setIfInBounds]; exact hI.size
          · intro e he hel
            by_cases qe : e = i
            · subst qe; rw [hself]; exact hFv
            · rw [hput _ (hne e he qe)]
              exact hF e _ w w' he (hI.facts e he (by rw [hls e qe] at hel; exact hel)) hB
          · intro e j he hj hej hel hjl
            by_cases qe : e = i
            · subst qe
              rw [hself, hput _ (hne j hj (Ne.symm hej))]
              exact .inl (hD j _ hj (Ne.symm hej) (hI.facts j hj (by rw [hls j (Ne.symm hej)] at hjl; exact hjl)))
            · by_cases qj : j = i
              · subst qj
                rw [hself, hput _ (hne e he qe)]
                exact .inr (hD e _ he qe (hI.facts e he (by rw [hls e qe] at hel; exact hel)))
              · rw [hput _ (hne e he qe), hput _ (hne j hj qj)]
                exact hI.apart e j he hj hej (by rw [hls e qe] at hel; exact hel) (by rw [hls j qj] at hjl; exact hjl)
          · intro j hj
            rw [hput j (fun h => hj i q h.symm)]
            exact hI.other j hj
      · have h1 := need_listed hcl 2 i i0 (factsB_two hb (by omega) his h01) (fun m hm => waits_listed hi hm)
        rcases Nat.lt_or_ge i0 listed.size with h' | h'
        · simp [h'] at h1 h02; rw [h02] at h1; cases h1
        · simp [Array.getElem?_eq_none h'] at h1
/-- the beginning -/
theorem begin_facts {id k : Nat} {d : Nat → Tmp} {Fa : Nat → Value → World → Prop} {D : Nat → Nat → Value → Value → Prop} {a0 : Act} {w : World} (hm : P.follows .mixedOrders = true) (hk : k ≤ ops.size) (hb : factsB .any ops k d a0.tmps.size = true)
    (hF : ∀ i v W W', i < k → Fa i v W → Below W.heap.size W W' → Fa i v W')
    (hop : ∀ i o, i < k → ops[i]? = some o → FactOp F n P .any ops Q k d Fa D a0 w.drew i o)
    (hfin : ∀ a w', FactI k d Fa D a0 w.drew (Array.replicate k true ++ Array.replicate (ops.size - k) false) a w' → wpAnyIn F n P .any ops Q (ops.size - k) (Array.replicate k true ++ Array.replicate (ops.size - k) false) a w') :
    (Code.region id ops true).wpIn F n P Q a0 w := by
  refine wpIn_region_any hm ?_
  have h := wpAnyIn_facts hk hb hF hop hfin k (Array.replicate ops.size false) a0 w.drew (cntU_all k hk) (by simp) (fun j _ h => by simp [h]) (fun e he => by
    rcases Nat.lt_or_ge e ops.size with h' | h'
    · simp [h'] at he
    · simp [show ¬ e < ops.size by omega] at he) ⟨rfl, rfl, fun e he h => by simp [show e < ops.size by omega] at h, fun e i he hi _ h => by simp [show e < ops.size by omega] at h, fun _ _ => rfl, Below.refl _ _⟩
  rw [show k + (ops.size - k) = ops.size by omega] at h
  exact h
theorem fold_slots (d : Nat → Tmp) (A : Array Value) : ∀ (is : List Nat) (t : Array Value), (is.foldl (fun t i => t.setIfInBounds (d i) (A.getD (d i) undef)) t).size = t.size ∧
    ∀ j, j < t.size → (is.foldl (fun t i => t.setIfInBounds (d i) (A.getD (d i) undef)) t).getD j undef = if j ∈ is.map d then A.getD j undef else t.getD j undef
  | [], t => ⟨rfl, fun j _ => by simp⟩
  | i :: is, t => by
    obtain ⟨h1, h2⟩ := fold_slots d A is (t.setIfInBounds (d i) (A.getD (d i) undef))
    refine ⟨by rw [List.foldl_cons, h1, Array.size_setIfInBounds], fun j hj => ?_⟩
    rw [List.foldl_cons, h2 j (by simpa using hj), List.map_cons]
    by_cases q : j ∈ is.map d
    · rw [if_pos q, if_pos (List.mem_cons_of_mem _ q)]
    · rw [if_neg q]
      by_cases e : d i = j
      · subst e
        rw [if_pos (List.mem_cons_self ..)]
        simp [hj]
      · rw [if_neg (by simp [q]; exact fun h => e h.symm)]
        simp [Array.getElem?_setIfInBounds_ne e]
/-- the frame, written out -/
theorem FactI.frame {k : Nat} {d : Nat → Tmp} {Fa : Nat → Value → World → Prop} {D : Nat → Nat → Value → Value → Prop} {a0 : Act} {w0 : World} {listed : Array Bool} {a : Act} {w : World} (h : FactI k d Fa D a0 w0 listed a w) :
    a.tmps = (List.range k).foldl (fun t i => t.setIfInBounds (d i) (a.tmps.getD (d i) undef)) a0.tmps := by
  obtain ⟨h1, h2⟩ := fold_slots d a.tmps (List.range k) a0.tmps
  apply Array.ext
  · rw [h1, h.size]
  · intro j hj hj'
    have h3 := h2 j (by rw [← h.size]; exact hj)
    have e1 : a.tmps[j] = a.tmps.getD j undef := by simp [hj]
    have e2 : ((List.range k).foldl (fun t i => t.setIfInBounds (d i) (a.tmps.getD (d i) undef)) a0.tmps)[j] = ((List.range k).foldl (fun t i => t.setIfInBounds (d i) (a.tmps.getD (d i) undef)) a0.tmps).getD j undef := by simp only [Array.getD, hj', dif_pos]; rfl
    rw [e1, e2, h3]
    by_cases q : j ∈ (List.range k).map d
    · rw [if_pos q]
    · rw [if_neg q]
      exact h.other j (fun e he hh => q (List.mem_map.2 ⟨e, List.mem_range.2 he, hh⟩))
end
end Go.Proofs.Ytdmnaehgngpikaa
namespace Go.Proofs.Ytdmnaehgngpikaa.K
open Go Go.RowKit
set_option linter.unusedVariables false
set_option linter.unusedSimpArgs false
theorem rowsIn_of' {P : Program} {row : String} {args : Array Value} {w : World} {n : Nat} {R : Value → World → Prop} (h : Rows P row args w R) : RowsIn Fence.wide n P row args w R :=
  fun c cs _ => let ⟨v, w', r, s⟩ := h c cs; ⟨v, w', r, stepsIn_wide.2 s⟩
theorem opIn_round {P : Program} {o : Oper} {a : Act} {w : World} {K : Act → World → Prop} {Q : Exit → Act → World → Prop} {lp : Nat} (hdef : ∀ c, o.op ≠ .defer c) (h : Oper.wp P o a w K Q) : Oper.wpIn (Fence.wide.inRound lp) 0 P o a w K Q := by
  refine ⟨fun _ _ => trivial, ?_⟩
  unfold Oper.wp at h
  show Oper.uponIn (Fence.wide.inRound lp) 0 P o a K Q ((Oper.semAt (some lp) a.eval o).run P w)
  rw [Oper.semAt_some lp a.eval o hdef]
  generalize (execOp a.eval o).run P w = r at h
  match r, h with
  | .ok (.value v) w', h => exact h
  | .ok .skip w', h => exact h
  | .ok (.defer d) w', h => exact h
  | .ok (.enter f args) w', h => exact ⟨fun h => by simp [Fence.wide, Fence.inRound] at h, CallsIn.inRound _ (callsIn_wide.2 h)⟩
  | .ok (.row row args) w', h => exact ⟨fun h => by simp [Fence.wide, Fence.inRound] at h, (rowsIn_of' h : RowsIn Fence.wide 0 P row args w' _)⟩
  | .halt (.panic v) w', h => exact h
end Go.Proofs.Ytdmnaehgngpikaa.K
namespace Go.Proofs.Ytdmnaehgngpikaa.K
open Go.RowKit Go.Proofs.YtdmnaehgngpikaaW.PrintWords Go.Proofs.YtdmnaehgngpikaaW.PrintLast Go.Proofs.YtdmnaehgngpikaaW.PrintMore
set_option linter.unusedVariables false
set_option linter.unusedSimpArgs false
attribute [local go_sem] Oper.semAt_some
def firstK (l : List Nd) (a : Nat) (k : Int) : Int := (kidsK l a [k]).headD (-1)
/-- one part of a table -/
def partP (l : List Nd) (a : Nat) (s : List S35 × List S35) (k : Int) : List S35 × List S35 :=
  if k = firstK l a 6 then s else if k = firstK l a 8 then (s.1, rowsP l k.toNat) else if kindOf l k = 9 then (s.1 ++ [⟨k, -1⟩], s.2) else (s.1 ++ rowsP l k.toNat, s.2)
def headP (l : List Nd) (a : Nat) : List S35 := if 0 ≤ firstK l a 6 then rowsP l (firstK l a 6).toNat else []
def laneRowsP (l : List Nd) (a : Nat) : List S35 := let s := (kidsK l a [9, 6, 7, 8]).foldl (partP l a) (headP l a, []); s.1 ++ s.2
theorem rowsP_len {l : List Nd} (hK : ∀ n ∈ l, n.f1.length ≤ 1000) (a : Nat) : (rowsP l a).length ≤ 1000 := by
  unfold rowsP
  rw [List.length_map]
  unfold kidsK
  refine Nat.le_trans (List.length_filter_le ..) ?_
  unfold kidsOf rd_T48
  rw [List.getD_eq_getElem?_getD]
  cases q : l[(a : Int).toNat]? with
  | none => simp [z48]
  | some x => exact hK x (List.mem_of_getElem? q)
theorem parts_len {l : List Nd} (hK : ∀ n ∈ l, n.f1.length ≤ 1000) (a : Nat) : ∀ (pre : List Int) (st : List S35 × List S35) (m : Nat), st.1.length ≤ 1000 * m → st.2.length ≤ 1000 → (pre.foldl (partP l a) st).1.length ≤ 1000 * (m + pre.length) ∧ (pre.foldl (partP l a) st).2.length ≤ 1000
  | [], st, m, h1, h2 => ⟨by simpa using h1, h2⟩
  | y :: pre, st, m, h1, h2 => by
    have hr := rowsP_len hK y.toNat
    have h3 : (partP l a st y).1.length ≤ 1000 * (m + 1) ∧ (partP l a st y).2.length ≤ 1000 := by
      unfold partP
      split
      · exact ⟨by omega, h2⟩
      · split
        · exact ⟨by show st.1.length ≤ _; omega, hr⟩
        · split
          · exact ⟨by show (st.1 ++ [_]).length ≤ _; rw [List.length_append]; simp; omega, h2⟩
          · exact ⟨by show (st.1 ++ rowsP l y.toNat).length ≤ _; rw [List.length_append]; omega, h2⟩
    have h4 := parts_len hK a pre _ (m + 1) h3.1 h3.2
    rw [List.foldl_cons, List.length_cons]
    exact ⟨by have := h4.1; omega, h4.2⟩
/-- what the region 'head, foot := ..' yields -/
def rowsD (i : Nat) : Tmp := [18, 19, 20, 21, 22, 23, 24, 25, 26, 27, 7, 8].getD i 0
def kindW (k : Int) (v : Value) (W : World) : Prop := ∃ b, v = .slice (some ⟨b, 0, none⟩) 1 1 ∧ Blk W b 3 #[.int .i64 k]
def iterW (l : List Nd) (A : Option Addr) (c : Nat) (a : Nat) (k : Int) (v : Value) (W : World) : Prop :=
  ∃ N b, v = .func (.func 43) #[] #[.pointer (some ⟨N, 0, none⟩), .pointer (some ⟨N + 1, 0, none⟩), .pointer (some ⟨N + 1 + 1, 0, none⟩)] ∧ KidsB W N A l.length c (a : Int) (some ⟨b, 0, none⟩) 1 1 ∧ Blk W b 3 #[.int .i64 k]
def cellW (M : Nat) (v : Value) (W : World) : Prop := ∃ b, v = .pointer (some ⟨b, 0, none⟩) ∧ Blk W b 3 #[.int .i64 0] ∧ M ≤ b
def rowsF (l : List Nd) (A : Option Addr) (c : Nat) (a M : Nat) : Nat → Value → World → Prop
  | 0, v, _ => v = .slice A l.length c
  | 1, v, _ => v = .int .i64 (a : Int)
  | 2, v, W => kindW 6 v W
  | 3, v, W => iterW l A c a 6 v W
  | 4, v, _ => v = .int .i64 (firstK l a 6)
  | 5, v, _ => v = .slice A l.length c
  | 6, v, _ => v = .int .i64 (a : Int)
  | 7, v, W => kindW 8 v W
  | 8, v, W => iterW l A c a 8 v W
  | 9, v, _ => v = .int .i64 (firstK l a 8)
  | 10, v, W => cellW M v W
  | 11, v, W => cellW M v W
  | _, _, _ => True
def rowsN (i j : Nat) (v u : Value) : Prop := (i = 10 ∧ j = 11 ∨ i = 11 ∧ j = 10) → v ≠ u
theorem rowsN_no {i : Nat} (h : i < 10) (e : Nat) (v u : Value) : rowsN i e v u := fun hh => by omega
theorem kindW_below {k : Int} {v : Value} {W V : World} (h : kindW k v W) (hb : Below W.heap.size W V) : kindW k v V := by
  obtain ⟨b, h1, h2⟩ := h
  exact ⟨b, h1, (hb.block _ (Blk.lt h2)).trans h2⟩
theorem iterW_below {l : List Nd} {A : Option Addr} {c a : Nat} {k : Int} {v : Value} {W V : World} (h : iterW l A c a k v W) (hb : Below W.heap.size W V) : iterW l A c a k v V := by
  obtain ⟨N, b, h1, h2, h3⟩ := h
  exact ⟨N, b, h1, h2.below hb, (hb.block _ (Blk.lt h3)).trans h3⟩
theorem cellW_below {M : Nat} {v : Value} {W V : World} (h : cellW M v W) (hb : Below W.heap.size W V) : cellW M v V := by
  obtain ⟨b, h1, h2, h3⟩ := h
  exact ⟨b, h1, (hb.block _ (Blk.lt h2)).trans h2, h3⟩
theorem rowsF_below (l : List Nd) (A : Option Addr) (c a M : Nat) : ∀ (i : Nat) (v : Value) (W V : World), i < 12 → rowsF l A c a M i v W → Below W.heap.size W V → rowsF l A c a M i v V
  | 0, _, _, _, _, h, _ => h
  | 1, _, _, _, _, h, _ => h
  | 2, _, _, _, _, h, hb => kindW_below h hb
  | 3, _, _, _, _, h, hb => iterW_below h hb
  | 4, _, _, _, _, h, _ => h
  | 5, _, _, _, _, h, _ => h
  | 6, _, _, _, _, h, _ => h
  | 7, _, _, _, _, h, hb => kindW_below h hb
  | 8, _, _, _, _, h, hb => iterW_below h hb
  | 9, _, _, _, _, h, _ => h
  | 10, _, _, _, _, h, hb => cellW_below h hb
  | 11, _, _, _, _, h, hb => cellW_below h hb
  | i + 12, _, _, _, hi, _, _ => by omega
/-- the state of the loop over a table's parts -/
structure PartI (w : World) (l : List Nd) (A : Option Addr) (c a H T O : Nat) (out last : List S35) (V : World) : Prop where
  bL : Blk V w.heap.size 22 #[.slice A l.length c]
  bH : Blk V H 3 #[.int .i64 (firstK l a 6)]
  bT : Blk V T 3 #[.int .i64 (firstK l a 8)]
  rows : ∃ v u, Blk V O 25 #[v] ∧ Blk V (O + 1) 25 #[u] ∧ Kd.R k35 35 V w.heap.size (fun k => some k ≠ u.ownBlock) v out ∧ Kd.R k35 35 V w.heap.size (fun k => some k ≠ v.ownBlock) u last
  b : Below w.heap.size w V
theorem partI_stab {β : Type} {w : World} {l : List Nd} {A : Option Addr} {c a H T O B : Nat} (f g : β → List S35) (hB : w.heap.size ≤ B) : Stab B (fun (s : β) V => PartI w l A c a H T O (f s) (g s) V) := by
  rintro s V V' row ⟨h1, h2, h3, ⟨v, u, h4, h5, h6, h7⟩, h8⟩ hg hr
  have mv : ∀ {ok : Nat → Prop} {x : Value} {xs : List S35}, Kd.R k35 35 V w.heap.size ok x xs → Kd.R k35 35 V' w.heap.size ok x xs := fun h => Kd.R_mono (Kd.R_move (Kd.R_bound h) (fun k hk => hg.block k hk.2.2.1 (fun e => by
        obtain ⟨_, o, ho, hb⟩ := hr k e.symm
        obtain ⟨_, _, _, q, _, cells, hc⟩ := hk
        rw [hc] at ho; cases ho; cases hb))) (fun _ hk => hk.1)
  exact ⟨Stab.blk _ _ (fun _ : Unit => _) () V V' row h1 hg hr, Stab.blk _ _ (fun _ : Unit => _) () V V' row h2 hg hr, Stab.blk _ _ (fun _ : Unit => _) () V V' row h3 hg hr, ⟨v, u, Stab.blk _ _ (fun _ : Unit => _) () V V' row h4 hg hr, Stab.blk _ _ (fun _ : Unit => _) () V V' row h5 hg hr, mv h6, mv h7⟩, (Stab.below (β := Unit) (Nat.le_refl _) hB) () V V' row h8 hg hr⟩
theorem PartI.below {w : World} {l : List Nd} {A : Option Addr} {c a H T O : Nat} {out last : List S35} {V V' : World} (h : PartI w l A c a H T O out last V) (hb : Below V.heap.size V V') : PartI w l A c a H T O out last V' := by
  obtain ⟨h1, h2, h3, ⟨v, u, h4, h5, h6, h7⟩, h8⟩ := h
  exact ⟨(hb.block _ (Blk.lt h1)).trans h1, (hb.block _ (Blk.lt h2)).trans h2, (hb.block _ (Blk.lt h3)).trans h3, ⟨v, u, (hb.block _ (Blk.lt h4)).trans h4, (hb.block _ (Blk.lt h5)).trans h5, Kd.R_below h6 hb, Kd.R_below h7 hb⟩, h8.trans (hb.mono h8.size)⟩
theorem of_if_pos {c A B : Prop} [Decidable c] (hc : c) (h : if c then A else B) : A := by rwa [if_pos hc] at h
theorem firstK_in {l : List Nd} {a : Nat} (hki : KidsIn l) (ha : a < l.length) {k : Int} (h : 0 ≤ firstK l a k) : ∃ n : Nat, firstK l a k = n ∧ n < l.length := by
  unfold firstK at h ⊢
  cases q : kidsK l a [k] with
  | nil => rw [q] at h; simp at h
  | cons y ys =>
    have hy : y ∈ kidsOf l (a : Int) := (List.mem_filter.1 (show y ∈ kidsK l a [k] by rw [q]; exact List.mem_cons_self ..)).1
    have := kidsIn_of hki (by omega : (0 : Int) ≤ (a : Int)) (by omega) y hy
    obtain ⟨n, rfl⟩ := Int.eq_ofNat_of_zero_le this.1
    exact ⟨n, rfl, by omega⟩
set_option maxRecDepth 100000 in
set_option maxHeartbeats 4000000 in
theorem rows_yes (l : List Nd) (A : Option Addr) (c : Nat) (w : World) (hNC : Kd.C k48 w A l.length l) (hc : l.length ≤ c) (hl : (linksOf l).length ≤ 1000000000) (hK0 : ∀ n ∈ l, n.f1.length ≤ 1000) (a : Nat) (ha : a < l.length) (hki : KidsIn l) (hq : checkL l a = 0) :
    Calls Try.prog 16 #[.slice A l.length c, .int .i64 (a : Int)] w fun e w' => ∃ v0_ : Value, e = .returned (.tuple #[v0_, .int .i64 0]) ∧ Kd.R k35 35 w' w.heap.size (fun _ => True) v0_ (laneRowsP l a) ∧ Below w.heap.size w w' := by
  have hq2 : ((0 : Int) != 0) = false := by simp
  have HCH := Lib.hid (fun W (hW : Below w.heap.size w W) => by have := lcheck_any l A c W (Kd.C_below hNC hW) hc hl a; rw [hq] at this; exact this)
  have hK : ∀ n ∈ l, n.f1.length ≤ 1000000000 := fun n hn => by have := hK0 n hn; omega
  have HLEN := Lib.hid (kidsK_len l a [9, 6, 7, 8] hK)
  have HPL := Lib.hid (fun pre => parts_len hK0 a pre (headP l a, []) 1 (by show (headP l a).length ≤ _; unfold headP; split; have := rowsP_len hK0 (firstK l a 6).toNat; omega; simp) (by simp))
  have HK0 := Lib.hid hK0
  clear hK0
  have HNC := Lib.hid hNC
  have hbig := hNC.2.1
  obtain ⟨CS, hCS⟩ := nodesAt_of hNC
  have HN := Lib.hid hCS
  clear hq hNC hCS
  refine calls_of_wp_marks Try.func16 rfl ?_
  simp only [Try.ntmps16, List.size_toArray, List.length_cons, List.length_nil, Nat.reduceAdd, Nat.reduceSub, Array.replicate_succ, Array.replicate_zero, List.push_toArray, List.append_toArray, List.nil_append, List.cons_append]
  have g0 : Blk (w.alloc (.cells #[.slice A l.length c] 22)) w.heap.size 22 #[.slice A l.length c] := Blk.new w _ _
  have hB0 : Below w.heap.size w (w.alloc (.cells #[.slice A l.length c] 22)) := (Below.refl _ w).alloc (Nat.le_refl _) _
  go_upto_region 1 with fail
  go_step3
  go_upto_region 2 with (go_at_call 23; refine (HCH.out _ hB0).mono ?_; rintro e w1 ⟨rfl, hb⟩; have g1 := (hb.block _ (Blk.lt g0)).trans g0; have hB1 := hB0.trans (hb.mono hB0.size); clear hb HCH g0 hB0)
  go_upto_region 4 with fail
  refine (wpIn_wide (n := 0)).1 ?_
  refine begin_facts (k := 12) (d := rowsD) (Fa := rowsF l A c a w1.heap.size) (D := rowsN) (by kernel_rfl) (by decide) (by kernel_rfl) (rowsF_below l A c a _) ?_ ?_
  · intro i o hi ho
    rcases i with _ | _ | _ | _ | _ | _ | _ | _ | _ | _ | _ | _ | i
    · cases ho
      intro a1 V hd hp ho hB K hK
      obtain ⟨t1, df⟩ := a1
      obtain rfl : df = [] := hd
      have h2 : t1.getD 2 undef = .pointer (some ⟨w.heap.size, 0, none⟩) := ho 2 (by decide)
      have y0 : V.cell? ⟨w.heap.size, 0, none⟩ = some (.slice A l.length c) := Blk.cell ((hB.block _ (Blk.lt g1)).trans g1) 0
      go_simp
      exact hK _ V (Below.refl _ _) rfl (fun e u _ _ _ => rowsN_no (by decide) e _ u)
    · cases ho
      intro a1 V hd hp ho hB K hK
      obtain ⟨t1, df⟩ := a1
      obtain rfl : df = [] := hd
      have h1 : t1.getD 1 undef = .int .i64 (a : Int) := ho 1 (by decide)
      go_simp
      exact hK _ V (Below.refl _ _) rfl (fun e u _ _ _ => rowsN_no (by decide) e _ u)
    · cases ho
      intro a1 V hd hp ho hB K hK
      obtain ⟨t1, df⟩ := a1
      obtain rfl : df = [] := hd
      go_simp
      exact hK _ _ ((Below.refl _ V).alloc (Nat.le_refl _) _) ⟨_, rfl, Blk.new V _ _⟩ (fun e u _ _ _ => rowsN_no (by decide) e _ u)
    · cases ho
      intro a1 V hd hp ho hB K hK
      obtain ⟨t1, df⟩ := a1
      obtain rfl : df = [] := hd
      have h18 : t1.getD 18 undef = .slice A l.length c := hp 0 (by decide) (by kernel_rfl)
      have h19 : t1.getD 19 undef = .int .i64 (a : Int) := hp 1 (by decide) (by kernel_rfl)
      obtain ⟨b, h20, hb⟩ := hp 2 (by decide) (by kernel_rfl)
      replace h20 : t1.getD 20 undef = .slice (some ⟨b, 0, none⟩) 1 1 := h20
      go_simp
      refine (callsIn_wide.2 (kids_any A l.length c (a : Int) (some ⟨b, 0, none⟩) 1 1 V)).mono ?_
      rintro e w' ⟨rfl, rfl⟩
      exact hK _ _ (kidsW_below ..) ⟨V.heap.size, b, rfl, kidsW_blk .., ((kidsW_below ..).block _ (Blk.lt hb)).trans hb⟩ (fun e u _ _ _ => rowsN_no (by decide) e _ u)
    · cases ho
      intro a1 V hd hp ho hB K hK
      obtain ⟨t1, df⟩ := a1
      obtain rfl : df = [] := hd
      obtain ⟨N, b, h21, hk, hb⟩ := hp 3 (by decide) (by kernel_rfl)
      replace h21 : t1.getD 21 undef = .func (.func 43) #[] #[.pointer (some ⟨N, 0, none⟩), .pointer (some ⟨N + 1, 0, none⟩), .pointer (some ⟨N + 1 + 1, 0, none⟩)] := h21
      have hBw : Below w.heap.size w V := hB1.trans ((((Below.refl _ w1).drew).trans hB).mono hB1.size)
      have HF := first_any _ _ _ _ (kids1_iter l N (N + 1) (N + 1 + 1) A CS c hc hbig a ha hki (some ⟨b, 0, none⟩) 1 [6] (Nat.le_refl _) (by decide)) (enters_of Try.func43 (by kernel_rfl) rfl) (-1) V (fun V' hV => ⟨(hk.below hV).cells, HN.out.below (hBw.trans (hV.mono hBw.size)), c_ints (xs := [6]) ((hV.block _ (Blk.lt hb)).trans hb) rfl (by decide)⟩)
      go_simp
      refine (callsIn_wide.2 HF).mono ?_
      rintro e w' ⟨rfl, hb'⟩
      exact hK _ _ hb' rfl (fun e u _ _ _ => rowsN_no (by decide) e _ u)
    · cases ho
      intro a1 V hd hp ho hB K hK
      obtain ⟨t1, df⟩ := a1
      obtain rfl : df = [] := hd
      have h2 : t1.getD 2 undef = .pointer (some ⟨w.heap.size, 0, none⟩) := ho 2 (by decide)
      have y0 : V.cell? ⟨w.heap.size, 0, none⟩ = some (.slice A l.length c) := Blk.cell ((hB.block _ (Blk.lt g1)).trans g1) 0
      go_simp
      exact hK _ V (Below.refl _ _) rfl (fun e u _ _ _ => rowsN_no (by decide) e _ u)
    · cases ho
      intro a1 V hd hp ho hB K hK
      obtain ⟨t1, df⟩ := a1
      obtain rfl : df = [] := hd
      have h1 : t1.getD 1 undef = .int .i64 (a : Int) := ho 1 (by decide)
      go_simp
      exact hK _ V (Below.refl _ _) rfl (fun e u _ _ _ => rowsN_no (by decide) e _ u)
    · cases ho
      intro a1 V hd hp ho hB K hK
      obtain ⟨t1, df⟩ := a1
      obtain rfl : df = [] := hd
      go_simp
      exact hK _ _ ((Below.refl _ V).alloc (Nat.le_refl _) _) ⟨_, rfl, Blk.new V _ _⟩ (fun e u _ _ _ => rowsN_no (by decide) e _ u)
    · cases ho
      intro a1 V hd hp ho hB K hK
      obtain ⟨t1, df⟩ := a1
      obtain rfl : df = [] := hd
      have h18 : t1.getD 23 undef = .slice A l.length c := hp 5 (by decide) (by kernel_rfl)
      have h19 : t1.getD 24 undef = .int .i64 (a : Int) := hp 6 (by decide) (by kernel_rfl)
      obtain ⟨b, h20, hb⟩ := hp 7 (by decide) (by kernel_rfl)
      replace h20 : t1.getD 25 undef = .slice (some ⟨b, 0, none⟩) 1 1 := h20
      go_simp
      refine (callsIn_wide.2 (kids_any A l.length c (a : Int) (some ⟨b, 0, none⟩) 1 1 V)).mono ?_
      rintro e w' ⟨rfl, rfl⟩
      exact hK _ _ (kidsW_below ..) ⟨V.heap.size, b, rfl, kidsW_blk .., ((kidsW_below ..).block _ (Blk.lt hb)).trans hb⟩ (fun e u _ _ _ => rowsN_no (by decide) e _ u)
    · cases ho
      intro a1 V hd hp ho hB K hK
      obtain ⟨t1, df⟩ := a1
      obtain rfl : df = [] := hd
      obtain ⟨N, b, h21, hk, hb⟩ := hp 8 (by decide) (by kernel_rfl)
      replace h21 : t1.getD 26 undef = .func (.func 43) #[] #[.pointer (some ⟨N, 0, none⟩), .pointer (some ⟨N + 1, 0, none⟩), .pointer (some ⟨N + 1 + 1, 0, none⟩)] := h21
      have hBw : Below w.heap.size w V := hB1.trans ((((Below.refl _ w1).drew).trans hB).mono hB1.size)
      have HF := first_any _ _ _ _ (kids1_iter l N (N + 1) (N + 1 + 1) A CS c hc hbig a ha hki (some ⟨b, 0, none⟩) 1 [8] (Nat.le_refl _) (by decide)) (enters_of Try.func43 (by kernel_rfl) rfl) (-1) V (fun V' hV => ⟨(hk.below hV).cells, HN.out.below (hBw.trans (hV.mono hBw.size)), c_ints (xs := [8]) ((hV.block _ (Blk.lt hb)).trans hb) rfl (by decide)⟩)
      go_simp
      refine (callsIn_wide.2 HF).mono ?_
      rintro e w' ⟨rfl, hb'⟩
      exact hK _ _ hb' rfl (fun e u _ _ _ => rowsN_no (by decide) e _ u)
    · cases ho
      intro a1 V hd hp ho hB K hK
      obtain ⟨t1, df⟩ := a1
      obtain rfl : df = [] := hd
      go_simp
      refine hK _ _ ((Below.refl _ V).alloc (Nat.le_refl _) _) ⟨_, rfl, Blk.new V _ _, hB.size⟩ (fun e u _ _ hu hh => ?_)
      obtain rfl : e = 11 := by omega
      obtain ⟨b, rfl, hb, -⟩ := hu
      have := Blk.lt hb
      intro hcon
      injection hcon with hcon
      injection hcon with hcon
      injection hcon with hcon
      omega
    · cases ho
      intro a1 V hd hp ho hB K hK
      obtain ⟨t1, df⟩ := a1
      obtain rfl : df = [] := hd
      go_simp
      refine hK _ _ ((Below.refl _ V).alloc (Nat.le_refl _) _) ⟨_, rfl, Blk.new V _ _, hB.size⟩ (fun e u _ _ hu hh => ?_)
      obtain rfl : e = 10 := by omega
      obtain ⟨b, rfl, hb, -⟩ := hu
      have := Blk.lt hb
      intro hcon
      injection hcon with hcon
      injection hcon with hcon
      injection hcon with hcon
      omega
    · omega
  · intro a1 V hI
    have hf := hI.frame
    have e18 : a1.tmps.getD 18 undef = .slice A l.length c := hI.facts 0 (by decide) (by kernel_rfl)
    have e19 : a1.tmps.getD 19 undef = .int .i64 (a : Int) := hI.facts 1 (by decide) (by kernel_rfl)
    obtain ⟨b20, e20, -⟩ := hI.facts 2 (by decide) (by kernel_rfl)
    obtain ⟨N21, b21, e21, -, -⟩ := hI.facts 3 (by decide) (by kernel_rfl)
    have e22 : a1.tmps.getD 22 undef = .int .i64 (firstK l a 6) := hI.facts 4 (by decide) (by kernel_rfl)
    have e23 : a1.tmps.getD 23 undef = .slice A l.length c := hI.facts 5 (by decide) (by kernel_rfl)
    have e24 : a1.tmps.getD 24 undef = .int .i64 (a : Int) := hI.facts 6 (by decide) (by kernel_rfl)
    obtain ⟨b25, e25, -⟩ := hI.facts 7 (by decide) (by kernel_rfl)
    obtain ⟨N26, b26, e26, -, -⟩ := hI.facts 8 (by decide) (by kernel_rfl)
    have e27 : a1.tmps.getD 27 undef = .int .i64 (firstK l a 8) := hI.facts 9 (by decide) (by kernel_rfl)
    obtain ⟨H, e7, hbH, hMH⟩ := hI.facts 10 (by decide) (by kernel_rfl)
    obtain ⟨T, e8, hbT, hMT⟩ := hI.facts 11 (by decide) (by kernel_rfl)
    replace e20 : a1.tmps.getD 20 undef = .slice (some ⟨b20, 0, none⟩) 1 1 := e20
    replace e21 : a1.tmps.getD 21 undef = .func (.func 43) #[] #[.pointer (some ⟨N21, 0, none⟩), .pointer (some ⟨N21 + 1, 0, none⟩), .pointer (some ⟨N21 + 1 + 1, 0, none⟩)] := e21
    replace e25 : a1.tmps.getD 25 undef = .slice (some ⟨b25, 0, none⟩) 1 1 := e25
    replace e26 : a1.tmps.getD 26 undef = .func (.func 43) #[] #[.pointer (some ⟨N26, 0, none⟩), .pointer (some ⟨N26 + 1, 0, none⟩), .pointer (some ⟨N26 + 1 + 1, 0, none⟩)] := e26
    replace e7 : a1.tmps.getD 7 undef = .pointer (some ⟨H, 0, none⟩) := e7
    replace e8 : a1.tmps.getD 8 undef = .pointer (some ⟨T, 0, none⟩) := e8
    have hHT : H ≠ T := by
      rintro rfl
      rcases hI.apart 10 11 (by decide) (by decide) (by decide) (by kernel_rfl) (by kernel_rfl) with h | h
      · exact h (.inl ⟨rfl, rfl⟩) (e7.trans e8.symm)
      · exact h (.inr ⟨rfl, rfl⟩) (e8.trans e7.symm)
    have hBw : Below w.heap.size w V := hB1.trans ((((Below.refl _ w1).drew).trans hI.below).mono hB1.size)
    have hg2 := (hI.below.block _ (Blk.lt g1)).trans g1
    obtain ⟨t1, df⟩ := a1
    obtain rfl : df = [] := hI.defers
    rw [show List.range 12 = [0, 1, 2, 3, 4, 5, 6, 7, 8, 9, 10, 11] from rfl] at hf
    simp only [List.foldl_cons, List.foldl_nil, show rowsD 0 = 18 from rfl, show rowsD 1 = 19 from rfl, show rowsD 2 = 20 from rfl, show rowsD 3 = 21 from rfl, show rowsD 4 = 22 from rfl, show rowsD 5 = 23 from rfl, show rowsD 6 = 24 from rfl, show rowsD 7 = 25 from rfl, show rowsD 8 = 26 from rfl, show rowsD 9 = 27 from rfl, show rowsD 10 = 7 from rfl, show rowsD 11 = 8 from rfl] at hf
    replace hf : t1 = _ := hf
    dsimp only at e18 e19 e20 e21 e22 e23 e24 e25 e26 e27 e7 e8
    rw [e18, e19, e20, e21, e22, e23, e24, e25, e26, e27, e7, e8] at hf
    simp only [List.setIfInBounds_toArray, List.set_cons_zero, List.set_cons_succ] at hf
    clear e18 e19 e20 e21 e22 e23 e24 e25 e26 e27 e7 e8 hI
    subst hf
    refine wpAnyIn_of_held (S := fun _ => True) _ _ _ _ ?_
    have y7 : V.cell? ⟨H, 0, none⟩ = some (.int .i64 0) := Blk.cell hbH 0
    have f7 := Blk.frozen hbH 0
    have l7 := Blk.lt hbH
    have hbT' := Blk.other hbT (p := ⟨H, 0, none⟩) (Ne.symm hHT) (.int .i64 (firstK l a 6))
    have y8 := Blk.cell hbT' 0
    have f8 := Blk.frozen hbT' 0
    have l8 := Blk.lt hbT'
    (refine oneH (i := 12) rfl (by kernel_rfl) (fun K hK => ?_); go_simp)
    refine hK _ _ ⟨trivial, ?_⟩
    clear hK K
    (refine oneH (i := 13) rfl (by kernel_rfl) (fun K hK => ?_); go_simp)
    refine hK _ _ ⟨trivial, ?_⟩
    clear hK K
    (refine doneH (by kernel_rfl) ?_ _)
    have hH4 := Blk.other (Blk.set hbH 0 (.int .i64 (firstK l a 6))) (p := ⟨T, 0, none⟩) hHT (.int .i64 (firstK l a 8))
    have hT4 := Blk.set hbT' 0 (.int .i64 (firstK l a 8))
    have hw1 : w.heap.size ≤ w1.heap.size := hB1.size
    have hlt1 := Blk.lt g1
    have hL4 := Blk.other (Blk.other hg2 (p := ⟨H, 0, none⟩) (by show w.heap.size ≠ H; omega) (.int .i64 (firstK l a 6))) (p := ⟨T, 0, none⟩) (by show w.heap.size ≠ T; omega) (.int .i64 (firstK l a 8))
    have hB4 := (hBw.setCell (p := ⟨H, 0, none⟩) (by show w.heap.size ≤ H; omega) (.int .i64 (firstK l a 6))).setCell (p := ⟨T, 0, none⟩) (by show w.heap.size ≤ T; omega) (.int .i64 (firstK l a 8))
    clear y7 f7 l7 y8 f8 l8 hbT' hbT hbH hg2 hBw hMH hMT hlt1 hw1 g1 hB1
    generalize (V.setCell ⟨H, 0, none⟩ (.int .i64 (firstK l a 6))).setCell ⟨T, 0, none⟩ (.int .i64 (firstK l a 8)) = W4 at hH4 hT4 hL4 hB4 ⊢
    simp only [Exit.then]
    go_upto_region 6 with fail
    have hs6 : ((W4.alloc (.cells #[.slice none 0 0] 25)).alloc (.cells #[.slice none 0 0] 25)).heap.size = W4.heap.size + 1 + 1 := by simp
    have hO6 : Blk ((W4.alloc (.cells #[.slice none 0 0] 25)).alloc (.cells #[.slice none 0 0] 25)) W4.heap.size 25 #[.slice none 0 0] := Blk.alloc (Blk.new W4 _ _) _
    have hZ6 : Blk ((W4.alloc (.cells #[.slice none 0 0] 25)).alloc (.cells #[.slice none 0 0] 25)) (W4.heap.size + 1) 25 #[.slice none 0 0] := by
      have := Blk.new (W4.alloc (.cells #[.slice none 0 0] 25)) 25 #[.slice none 0 0]
      rwa [World.size_alloc] at this
    have hH6 := Blk.alloc (Blk.alloc hH4 (.cells #[.slice none 0 0] 25)) (.cells #[.slice none 0 0] 25)
    have hT6 := Blk.alloc (Blk.alloc hT4 (.cells #[.slice none 0 0] 25)) (.cells #[.slice none 0 0] 25)
    have hL6 := Blk.alloc (Blk.alloc hL4 (.cells #[.slice none 0 0] 25)) (.cells #[.slice none 0 0] 25)
    have hB6 := (hB4.alloc hB4.size (.cells #[.slice none 0 0] 25)).alloc (by have := hB4.size; simp; omega) (.cells #[.slice none 0 0] 25)
    have hwO : w.heap.size ≤ W4.heap.size := hB4.size
    have hHO : H < W4.heap.size := Blk.lt hH4
    have hTO : T < W4.heap.size := Blk.lt hT4
    have hLO : w.heap.size < W4.heap.size := Blk.lt hL4
    clear hH4 hT4 hL4 hB4
    generalize (W4.alloc (.cells #[.slice none 0 0] 25)).alloc (.cells #[.slice none 0 0] 25) = W6 at hs6 hO6 hZ6 hH6 hT6 hL6 hB6 ⊢
    obtain ⟨O, hO⟩ : ∃ O, O = W4.heap.size := ⟨_, rfl⟩
    rw [← hO] at hs6 hO6 hZ6 hwO hHO hTO hLO ⊢
    clear hO
    go_cut [29] from 28 to 28 (fun g V => g = .bool (decide (0 ≤ firstK l a 6)) ∧ V = W6)
    case first =>
      have y7 : W6.cell? ⟨H, 0, none⟩ = some (.int .i64 (firstK l a 6)) := Blk.cell hH6 0
      have l7 := Blk.lt hH6
      go_wp2
      go_meet
      exact ⟨rfl, rfl⟩
    case rest =>
      rename_i K1 h1 K2 h2
      obtain ⟨rfl, hwc⟩ := hcut
      replace hwc := hwc.symm
      subst hwc
      refine h2 _ _ ?_
      clear h2 K2
      go_cut [] from 28 to 33 (fun V => PartI w l A c a H T O (headP l a) [] V)
      case first =>
        have yL : W6.cell? ⟨w.heap.size, 0, none⟩ = some (.slice A l.length c) := Blk.cell hL6 0
        have lL := Blk.lt hL6
        have lO := Blk.lt hO6
        have HHH := Lib.hid (And.intro hH6 (And.intro hT6 (And.intro hL6 (And.intro hB6 (And.intro hO6 hZ6)))))
        clear hH6 hT6 hL6 hB6 hO6 hZ6
        by_cases hh : 0 ≤ firstK l a 6
        · obtain ⟨hn, he, hlt⟩ := firstK_in hki ha hh
          have y7 : W6.cell? ⟨H, 0, none⟩ = some (.int .i64 (hn : Int)) := by rw [← he]; exact Blk.cell HHH.out.1 0
          have l7 := Blk.lt HHH.out.1
          have hd : decide (0 ≤ firstK l a 6) = true := decide_eq_true hh
          have HR := Lib.hid (rows_any l A c W6 (Kd.C_below HNC.out HHH.out.2.2.2.1) hc hn hlt hki hK)
          have HP := Lib.hid (show headP l a = rowsP l hn by unfold headP; rw [if_pos hh, he, Int.toNat_natCast])
          clear hlt HNC HN he
          rw [hd]
          go_wp2_with (go_at_call 31; refine HR.out.mono ?_; rintro e w7 ⟨v, rfl, hR7, hb7⟩; obtain ⟨Av, cv, rfl⟩ := Kd.R_slice hR7; have hO7 := (hb7.block _ lO).trans HHH.out.2.2.2.2.1; have yO := Blk.cell hO7 0; have fO := Blk.frozen hO7 0; have lO7 := Blk.lt hO7; have HR7 := Lib.hid hR7; have HB7 := Lib.hid hb7; have HO7 := Lib.hid hO7; clear hR7 hb7 hO7)
          go_meet
          rw [HP.out]
          have hBw7 : Below w.heap.size w w7 := HHH.out.2.2.2.1.trans (HB7.out.mono HHH.out.2.2.2.1.size)
          have mv : ∀ {b t : Nat} {cs : Array Value}, Blk W6 b t cs → b ≠ O → Blk (w7.setCell ⟨O, 0, none⟩ (.slice Av (rowsP l hn).length cv)) b t cs := fun {b t cs} h hne => Blk.other ((HB7.out.block _ (Blk.lt h)).trans h) (p := ⟨O, 0, none⟩) (by show _ ≠ O; exact hne) _
          exact ⟨mv HHH.out.2.2.1 (by omega), mv HHH.out.1 (by omega), mv HHH.out.2.1 (by omega), ⟨_, .slice none 0 0, Blk.set HO7.out 0 _, mv HHH.out.2.2.2.2.2 (by omega), Kd.R_mono (Kd.R_lower (Kd.R_set HR7.out HO7.out (by decide) 0 _) HHH.out.2.2.2.1.size) (fun k _ => by simp [Value.ownBlock]), Kd.R_nil _ _ _ _ _⟩, hBw7.setCell (p := ⟨O, 0, none⟩) (by show _ ≤ O; exact hwO) _⟩
        · have hd : decide (0 ≤ firstK l a 6) = false := decide_eq_false hh
          have HP := Lib.hid (show headP l a = [] by unfold headP; rw [if_neg hh])
          rw [hd]
          go_wp2
          go_meet
          rw [HP.out]
          exact ⟨HHH.out.2.2.1, HHH.out.1, HHH.out.2.1, ⟨_, _, HHH.out.2.2.2.2.1, HHH.out.2.2.2.2.2, Kd.R_nil _ _ _ _ _, Kd.R_nil _ _ _ _ _⟩, HHH.out.2.2.2.1⟩
      case rest =>
        refine h1 _ _ ?_
        clear h1 K1 hH6 hT6 hL6 hB6 hO6 hZ6
        have HI0 := Lib.hid hcut
        have yL : wc.cell? ⟨w.heap.size, 0, none⟩ = some (.slice A l.length c) := Blk.cell hcut.bL 0
        have lL := Blk.lt hcut.bL
        have lO : O + 1 < wc.heap.size := by obtain ⟨v, u, -, h5, -, -⟩ := hcut.rows; exact Blk.lt h5
        clear hcut
        go_upto_region 8 with fail
        refine wp_label ?_
        simp only [Exit.then]
        go_upto_region 8 with fail
        go_wp2_with (go_at_call 30; refine (kids_any A l.length c (a : Int) (some ⟨wc.heap.size, 0, none⟩) 4 4 _).mono ?_; rintro e w8 ⟨rfl, rfl⟩)
        have hIa := HI0.out.below ((Below.refl _ wc).alloc (Nat.le_refl _) (.cells #[.int .i64 9, .int .i64 6, .int .i64 7, .int .i64 8] 3))
        have gk : Blk (wc.alloc (.cells #[.int .i64 9, .int .i64 6, .int .i64 7, .int .i64 8] 3)) wc.heap.size 3 #[.int .i64 9, .int .i64 6, .int .i64 7, .int .i64 8] := Blk.new wc _ _
        have hsa : (wc.alloc (.cells #[.int .i64 9, .int .i64 6, .int .i64 7, .int .i64 8] 3)).heap.size = wc.heap.size + 1 := by simp
        generalize wc.alloc (.cells #[.int .i64 9, .int .i64 6, .int .i64 7, .int .i64 8] 3) = Wa at hIa gk hsa ⊢
        have hk4 := kidsW_blk Wa A l.length c (a : Int) (some ⟨wc.heap.size, 0, none⟩) 4 4
        have hb4 := kidsW_below Wa A l.length c (a : Int) (some ⟨wc.heap.size, 0, none⟩) 4 4
        have hs4 := kidsW_size Wa A l.length c (a : Int) (some ⟨wc.heap.size, 0, none⟩) 4 4
        rw [hsa] at hk4 hs4
        generalize kidsW Wa A l.length c (a : Int) (some ⟨wc.heap.size, 0, none⟩) 4 4 = W8 at hk4 hb4 hs4 ⊢
        have gk' := (hb4.block _ (Blk.lt gk)).trans gk
        have hI8 := hIa.below hb4
        clear hIa gk hsa hb4 HI0 yL
        obtain ⟨N, hN⟩ : ∃ N, N = wc.heap.size := ⟨_, rfl⟩
        rw [← hN] at hk4 hs4 gk' lO ⊢
        clear hN
        have HIT := Lib.hid (kids1_iter l (N + 1) (N + 1 + 1) (N + 1 + 1 + 1) A CS c hc hbig a ha hki (some ⟨N, 0, none⟩) 4 [9, 6, 7, 8] (Nat.le_refl _) (by decide))
        refine wp_range_plain HIT.out (enters_of Try.func43 (by kernel_rfl) rfl) rfl (fun _ => rfl)
          (fun (pre : List Int) V => PartI w l A c a H T O (pre.foldl (partP l a) (headP l a, [])).1 (pre.foldl (partP l a) (headP l a, [])).2 V ∧ Blk V N 3 #[.int .i64 9, .int .i64 6, .int .i64 7, .int .i64 8] ∧ KidsB V (N + 1) A l.length c (a : Int) (some ⟨N, 0, none⟩) 4 4)
          (fun (cd : Code) V => False)
          (Stab.and (partI_stab _ _ (by omega)) (Stab.and (Stab.blk _ _ _) (kidsB_stab _ _ _ _ _ _ _ _ _)))
          (Stab.pure _ (fun _ => False))
          (fun pre V h => ⟨h.2.2.cells, HN.out.below h.1.b, c_ints (b := N) (xs := [9, 6, 7, 8]) h.2.1 rfl (by decide)⟩)
          ⟨hI8, gk', hk4⟩ ?round ?done (fun _ _ _ _ h => h.elim)
        case done =>
          rintro D W hD ⟨hI, -, -⟩ hbook hd
          have hlen := HPL.out (kidsK l a [9, 6, 7, 8])
          have hll := HLEN.out
          have hE := Lib.hid (show laneRowsP l a = ((kidsK l a [9, 6, 7, 8]).foldl (partP l a) (headP l a, [])).1 ++ ((kidsK l a [9, 6, 7, 8]).foldl (partP l a) (headP l a, [])).2 from rfl)
          generalize (kidsK l a [9, 6, 7, 8]).foldl (partP l a) (headP l a, []) = st at hI hlen hE
          obtain ⟨out, last⟩ := st
          replace hE : Hid (laneRowsP l a = out ++ last) := hE
          replace hlen : out.length ≤ 1000 * (1 + (kidsK l a [9, 6, 7, 8]).length) ∧ last.length ≤ 1000 := hlen
          have hlen2 : (out.length + last.length) * 16 ≤ 140737488355328 := by omega
          clear hlen hll
          obtain ⟨v, u, hO, hZ, hv, hu⟩ : ∃ v u, Blk W O 25 #[v] ∧ Blk W (O + 1) 25 #[u] ∧ Kd.R k35 35 W w.heap.size (fun k => some k ≠ u.ownBlock) v out ∧ Kd.R k35 35 W w.heap.size (fun k => some k ≠ v.ownBlock) u last := hI.rows
          have hIB : Below w.heap.size w W := hI.b
          have hown : ∀ k, u.ownBlock = some k → k < W.heap.size := fun k e => by
            obtain ⟨cells, hc⟩ := own_typed hu.2.choose_spec.1 k e
            exact (Array.getElem?_eq_some_iff.1 hc).1
          obtain ⟨Au, cu, rfl, hlu, hCu⟩ := Kd.R_reads hu
          have y0 : W.cell? ⟨O, 0, none⟩ = some v := Blk.cell hO 0
          have y1 : W.cell? ⟨O + 1, 0, none⟩ = some (.slice Au last.length cu) := Blk.cell hZ 0
          have l0' := Blk.lt hO
          have l1' := Blk.lt hZ
          have HV := Lib.hid hv
          have HC := Lib.hid hCu
          have HBB := Lib.hid hIB
          have HD := Lib.hid hd
          have HW := Lib.hid hown
          clear hI hO hZ hv hu hIB hlu hCu hd hbook hown hI8 gk' hk4
          go_wp2_with ((with_reducible refine gate_builtin (b := .append) (xs := #[.tmp 66, .tmp 67]) rfl ?_); at_builtin; refine Kd.R_append_rows k35 (Rr := fun x cs => k35.K W x cs) (w0 := w) w.heap.size rfl (.tmp 66) (.tmp 67) 25 35 (.agg #[(.int .i64 0), (.int .i64 0)]) 16 rfl Try.underlying25 laneInfo rfl (by decide) (by omega) v out last Au last.length cu (fun k => some k ≠ (Value.slice Au last.length cu).ownBlock) (fun _ => False) rfl rfl HV.out HC.out (fun x cs h => by rw [k35_open h]; exact k35_mkM _ _ _ _) (fun _ hk => hk.elim) (fun k hk e => by have := HW.out k e.symm; omega) HBB.out HBB.out.size hlen2 ?_; intro v1 w9 ho1 hb1 hg1 hat1; have HO9 := Lib.hid ho1; have HB9 := Lib.hid hb1; have HG9 := Lib.hid hg1; clear ho1 hb1 hg1 hat1)
          have hbook : KeepBook W w9 := (KeepBook.refl W).grown HG9.out (fun j o e ho => by
            obtain ⟨cells, hc⟩ := own_typed HV.out.2.choose_spec.1 j e
            rw [hc] at ho; cases ho; rfl)
          have hD9 := hbook.same D _ HD.out rfl
          refine leaves_marks (v := .tuple #[v1, .int .i64 0]) (B := w.heap.size) ⟨[D], rfl, by simp, by simp; exact ⟨by omega, hD9⟩⟩ (fun W' hs => ⟨?_, v1, rfl, ?_, ?_⟩)
          · simp [results, Try.results16]
          · rw [hE.out]
            have hr := hs.stab (fun V => Kd.R k35 35 V w.heap.size (fun k => some k ≠ (Value.slice Au last.length cu).ownBlock) v1 (out ++ last)) (fun _ V V' row hV hg hr => Kd.R_mono (Kd.R_move (Kd.R_bound hV) (fun k hk => hg.block k hk.2.2.1 (fun e => by
              obtain ⟨_, o, ho, hb⟩ := hr k e.symm
              obtain ⟨_, _, _, q, _, cells, hc⟩ := hk
              rw [hc] at ho; cases ho; cases hb))) (fun _ hk => hk.1)) HO9.out
            exact Kd.R_mono hr (fun _ _ => trivial)
          · exact hs.stab _ (Stab.below (Nat.le_refl _) (Nat.le_refl _)) HB9.out
        case round =>
          rintro lp pre y rest W hx hl ⟨hI, hkb, hkk⟩
          have hyk : y ∈ kidsOf l (a : Int) := (List.mem_filter.1 (show y ∈ kidsK l a [9, 6, 7, 8] by rw [hx]; simp)).1
          have hyr := kidsIn_of hki (by omega : (0 : Int) ≤ (a : Int)) (by omega) y hyk
          obtain ⟨yn, rfl⟩ := Int.eq_ofNat_of_zero_le hyr.1
          have hyn : yn < l.length := by omega
          have hpl : pre.length < 1000000000 := by have := HLEN.out; rw [hx] at this; simp at this; omega
          have hol := (HPL.out pre).1
          clear hx hyk hI8 gk' hk4
          dsimp only [kidV]
          gi_wp2
          refine ⟨by (repeat (first | (with_reducible exact KeepBook.refl _) | (with_reducible refine KeepBook.alloc ?_ _) | (with_reducible refine KeepBook.setCell ?_ _ _) | (with_reducible refine KeepBook.drew ?_) | (refine KeepBook.below ?_ (by assumption)))), ?_⟩
          rintro W2 hs _
          have hI2 := hs.stab (fun V => PartI w l A c a H T O (pre.foldl (partP l a) (headP l a, [])).1 (pre.foldl (partP l a) (headP l a, [])).2 V) (fun _ V V' row h hg hr => partI_stab (β := Unit) (fun _ => _) (fun _ => _) (by omega) () V V' row h hg hr) hI
          have hkb2 := Aside0.mk (hs.blk hkb)
          have hkk2 := Aside0.mk (hs.stab (fun V => KidsB V (N + 1) A l.length c (a : Int) (some ⟨N, 0, none⟩) 4 4) (fun _ V V' row h hg hr => kidsB_stab (β := Unit) _ _ _ _ _ _ _ _ _ () V V' row h hg hr) hkk)
          have HF := Lib.hid (show (pre ++ [(yn : Int)]).foldl (partP l a) (headP l a, []) = partP l a (pre.foldl (partP l a) (headP l a, [])) (yn : Int) by rw [List.foldl_append]; rfl)
          clear hs hI hkb hkk
          obtain ⟨⟨out, last⟩, hst⟩ : ∃ st, st = pre.foldl (partP l a) (headP l a, []) := ⟨_, rfl⟩
          rw [← hst] at hI2 HF hol
          replace hol : out.length ≤ 1000 * (1 + pre.length) := hol
          replace hI2 : PartI w l A c a H T O out last W2 := hI2
          clear hst
          have HI2 := Aside0.mk hI2
          have yH : W2.cell? ⟨H, 0, none⟩ = some (.int .i64 (firstK l a 6)) := Blk.cell hI2.bH 0
          have yT : W2.cell? ⟨T, 0, none⟩ = some (.int .i64 (firstK l a 8)) := Blk.cell hI2.bT 0
          have yL : W2.cell? ⟨w.heap.size, 0, none⟩ = some (.slice A l.length c) := Blk.cell hI2.bL 0
          have lH := Blk.lt hI2.bH
          have lT := Blk.lt hI2.bT
          have lL := Blk.lt hI2.bL
          clear hI2
          by_cases q6 : (yn : Int) = firstK l a 6
          · have hd : ((yn : Int) == firstK l a 6) = true := beq_iff_eq.2 q6
            have HE := Lib.hid (show partP l a (out, last) (yn : Int) = (out, last) by unfold partP; rw [if_pos q6])
            clear q6
            gi_wp2
            refine ⟨KeepBook.refl _, ?_, hkb2.out, hkk2.out⟩
            rw [HF.out, HE.out]
            exact HI2.out
          by_cases q8 : (yn : Int) = firstK l a 8
          · have hd : ((yn : Int) == firstK l a 6) = false := beq_eq_false_iff_ne.2 q6
            have hd8 : ((yn : Int) == firstK l a 8) = true := beq_iff_eq.2 q8
            have HE := Lib.hid (show partP l a (out, last) (yn : Int) = (out, rowsP l yn) by unfold partP; rw [if_neg q6, if_pos q8, Int.toNat_natCast])
            have HR := Lib.hid (rows_any l A c W2 (Kd.C_below HNC.out HI2.out.b) hc yn hyn hki hK)
            obtain ⟨v, u, hO2, hZ2, hv2, hu2⟩ := HI2.out.rows
            have lZ := Blk.lt hZ2
            have HOO := Aside0.mk hO2
            have HZZ := Aside0.mk hZ2
            have HVV := Aside0.mk hv2
            clear q6 q8 hO2 hZ2 hv2 hu2
            gi_wp2_with (gi_at_call 31; refine (CallsIn.inRound _ (callsIn_wide.2 HR.out)).mono ?_; rintro e w7 ⟨v7, rfl, hR7, hb7⟩; obtain ⟨Av, cv, rfl⟩ := Kd.R_slice hR7; have hZ7 := (hb7.block _ lZ).trans HZZ.out; have yZ := Blk.cell hZ7 0; have fZ := Blk.frozen hZ7 0; have lZ7 := Blk.lt hZ7; have HR7 := Lib.hid hR7; have HB7 := Lib.hid hb7; have HZ7 := Lib.hid hZ7; clear hR7 hb7 hZ7)
            have hown : ∀ k, v.ownBlock = some k → k < W2.heap.size := fun k e => by
              obtain ⟨cells, hc⟩ := own_typed HVV.out.2.choose_spec.1 k e
              exact (Array.getElem?_eq_some_iff.1 hc).1
            have hnew := Kd.R_base HR7.out
            have mv : ∀ {b t : Nat} {cs : Array Value}, Blk W2 b t cs → b ≠ O + 1 → Blk (w7.setCell ⟨O + 1, 0, none⟩ (.slice Av (rowsP l yn).length cv)) b t cs := fun {b t cs} h hne => Blk.other ((HB7.out.block _ (Blk.lt h)).trans h) (p := ⟨O + 1, 0, none⟩) (by show _ ≠ O + 1; exact hne) _
            have hbk : KeepBook W2 (w7.setCell ⟨O + 1, 0, none⟩ (.slice Av (rowsP l yn).length cv)) := ((KeepBook.refl W2).below HB7.out).setCell _ _
            refine ⟨hbk, ?_, mv hkb2.out (by omega), ⟨mv hkk2.out.b1 (by omega), mv hkk2.out.b2 (by omega), mv hkk2.out.b3 (by omega)⟩⟩
            rw [HF.out, HE.out]
            exact ⟨mv HI2.out.bL (by omega), mv HI2.out.bH (by omega), mv HI2.out.bT (by omega), ⟨v, _, mv HOO.out (by omega), Blk.set HZ7.out 0 _, Kd.R_mono (Kd.R_bound (Kd.R_set (Kd.R_below (Kd.R_mono (Kd.R_bound HVV.out) (fun k hk => hk.2.2.1) : Kd.R k35 35 W2 w.heap.size (fun k => k < W2.heap.size) v out) HB7.out) HZ7.out (by decide) 0 _)) (fun k hk => fun e => by have := hnew k e.symm; have := hk.1; omega), Kd.R_mono (Kd.R_lower (Kd.R_bound (Kd.R_set HR7.out HZ7.out (by decide) 0 _)) HI2.out.b.size) (fun k hk => fun e => by have := hown k e.symm; have := hk.2.1; omega)⟩, (HI2.out.b.trans (HB7.out.mono HI2.out.b.size)).setCell (p := ⟨O + 1, 0, none⟩) (by show w.heap.size ≤ O + 1; omega) _⟩
          obtain ⟨z, hz⟩ : ∃ z, l[yn]? = some z := ⟨_, List.getElem?_eq_getElem hyn⟩
          obtain ⟨ad2, hA2, hl2, -, hcells2, hK2⟩ := (HN.out.below HI2.out.b) yn z hz
          obtain ⟨_, _, _, _, hcs3, -, -, -, -⟩ := k48_open hK2
          have hk0 : (CS yn)[0]? = some (.int .i64 z.f0) := by rw [hcs3]; rfl
          have hz0 : W2.cell? (ad2.add (yn * 34)) = some (.int .i64 z.f0) := hcells2 0 _ hk0
          have hkz : kindOf l (yn : Int) = z.f0 := by unfold kindOf rd_T48; rw [Int.toNat_natCast, List.getD_eq_getElem?_getD, hz]; rfl
          have hyz : (yn : Int) < (l.length : Int) := by omega
          have hy0' : ¬ ((yn : Int) < 0) := by omega
          have hd : ((yn : Int) == firstK l a 6) = false := beq_eq_false_iff_ne.2 q6
          have hd8 : ((yn : Int) == firstK l a 8) = false := beq_eq_false_iff_ne.2 q8
          clear hcells2 hl2 hK2 hcs3 hk0 hz
          by_cases q9 : z.f0 = 9
          · have hd9 : (z.f0 == 9) = true := beq_iff_eq.2 q9
            have HE := Lib.hid (show partP l a (out, last) (yn : Int) = (out ++ [⟨(yn : Int), -1⟩], last) by unfold partP; rw [if_neg q6, if_neg q8, if_pos (hkz.trans q9)])
            obtain ⟨v, u, hO2, hZ2, hv2, hu2⟩ := HI2.out.rows
            have yO : W2.cell? ⟨O, 0, none⟩ = some v := Blk.cell hO2 0
            have fO := Blk.frozen hO2 0
            have lO2 := Blk.lt hO2
            have HOO := Aside0.mk hO2
            have HZZ := Aside0.mk hZ2
            have HVV := Aside0.mk hv2
            have HUU := Aside0.mk hu2
            clear q6 q8 q9 hkz hO2 hZ2 hv2 hu2
            subst hA2
            have hown : ∀ k, u.ownBlock = some k → k < W2.heap.size := fun k e => by
              obtain ⟨cells, hc⟩ := own_typed HUU.out.2.choose_spec.1 k e
              exact (Array.getElem?_eq_some_iff.1 hc).1
            have hOw := Lib.hid hown
            clear hown
            gi_wp2_with (gi_at_builtin; go_loud (refine R_appendIn k35 (w0 := w) w.heap.size rfl (.tmp 61) (.tmp 64) 25 35 (.agg #[(.int .i64 0), (.int .i64 0)]) 16 rfl Try.underlying25 laneInfo rfl (by decide) (by omega) v out ⟨(yn : Int), -1⟩ [.int .i64 (yn : Int), .int .i64 (-1)] (fun k => some k ≠ u.ownBlock) (fun _ => False) rfl ?hx ?aP (fun _ hk => hk.elim) ?aF HVV.out HI2.out.b ?aS ?aL ?_); (case hx => go_simp); (case aP => exact k35_mkM _ _ _ _); (case aF => exact (fun k hk e => by have := hOw.out k e.symm; omega)); (case aS => exact HI2.out.b.size); (case aL => omega); intro v1 w7 ho hb hg hat; obtain ⟨A1', m1, c1', rfl⟩ : ∃ A m c, v1 = .slice A m c := (by obtain ⟨A, c, h⟩ := Kd.R_slice ho; exact ⟨A, _, c, h⟩); have hO' := (hg.block O lO2 (Kd.R_ne HVV.out HOO.out (by decide))).trans HOO.out; have y6 : w7.cell? ⟨O, 0, none⟩ = some v := Blk.cell hO' 0; have f6 := Blk.frozen hO' 0; have l6 := Blk.lt hO'; have HO1 := Aside0.mk ho; have HB1 := Aside0.mk hb; have HG1 := Aside0.mk hg; have HAT := Aside0.mk hat; have HOo := Aside0.mk hO'; clear ho hb hg hat hO')
            have hbook : KeepBook W2 (w7.setCell ⟨O, 0, none⟩ (.slice A1' m1 c1')) := ((KeepBook.refl W2).grown HG1.out (fun j o e ho => by
              obtain ⟨cells, hc⟩ := own_typed HVV.out.2.choose_spec.1 j e
              rw [hc] at ho; cases ho; rfl)).setCell _ _
            have mv : ∀ {b t : Nat} {cs : Array Value}, Blk W2 b t cs → 35 ≠ t → b ≠ O → Blk (w7.setCell ⟨O, 0, none⟩ (.slice A1' m1 c1')) b t cs := fun {b t cs} h ht hne => Blk.other ((HG1.out.block _ (Blk.lt h) (Kd.R_ne HVV.out h ht)).trans h) (p := ⟨O, 0, none⟩) (by show _ ≠ O; exact hne) _
            have hu7 := Kd.R_set (Kd.R_move (Kd.R_bound HUU.out) (fun k hk => HG1.out.block k hk.2.2.1 hk.1)) HOo.out (by decide) 0 (.slice A1' m1 c1')
            refine ⟨hbook, ?_, mv hkb2.out (by decide) (by omega), ⟨mv hkk2.out.b1 (by decide) (by omega), mv hkk2.out.b2 (by decide) (by omega), mv hkk2.out.b3 (by decide) (by omega)⟩⟩
            rw [HF.out, HE.out]
            exact ⟨mv HI2.out.bL (by decide) (by omega), mv HI2.out.bH (by decide) (by omega), mv HI2.out.bT (by decide) (by omega), ⟨_, u, Blk.set HOo.out 0 _, mv HZZ.out (by decide) (by omega), Kd.R_set HO1.out HOo.out (by decide) 0 _, Kd.R_mono hu7 (fun k hk e => by
              rcases HAT.out with h | ⟨b, h, hb⟩
              · exact hk.1 (e.trans h)
              · rw [h] at e; injection e with e; have := hk.2.2.1; omega)⟩, HB1.out.setCell (p := ⟨O, 0, none⟩) (by show w.heap.size ≤ O; omega) _⟩
          · have hd9 : (z.f0 == 9) = false := beq_eq_false_iff_ne.2 q9
            have HE := Lib.hid (show partP l a (out, last) (yn : Int) = (out ++ rowsP l yn, last) by unfold partP; rw [if_neg q6, if_neg q8, if_neg (fun h => q9 (hkz.symm.trans h)), Int.toNat_natCast])
            obtain ⟨v, u, hO2, hZ2, hv2, hu2⟩ := HI2.out.rows
            have yO : W2.cell? ⟨O, 0, none⟩ = some v := Blk.cell hO2 0
            have HOO := Aside0.mk hO2
            have HZZ := Aside0.mk hZ2
            have HVV := Aside0.mk hv2
            have HUU := Aside0.mk hu2
            clear q6 q8 q9 hkz hO2 hZ2 hv2 hu2
            have hBd : Below W2.heap.size W2 W2.drew := (Below.refl _ W2).drew
            have HR := Lib.hid (rows_any l A c W2.drew (Kd.C_below HNC.out (HI2.out.b.trans (hBd.mono HI2.out.b.size))) hc yn hyn hki hK)
            subst hA2
            gi_upto_region 10 with fail
            refine beginU (fun V : World => V.cell? ⟨O, 0, none⟩ = some v ∧ V.cell? ⟨w.heap.size, 0, none⟩ = some (.slice (some ad2) l.length c)) 4 (by kernel_rfl) ?_
            have HS : (fun V : World => V.cell? ⟨O, 0, none⟩ = some v ∧ V.cell? ⟨w.heap.size, 0, none⟩ = some (.slice (some ad2) l.length c)) W2.drew := ⟨yO, yL⟩
            (refine takeU (i := 0) (d := 38) (v := ?_) rfl rfl (by kernel_rfl) (by kernel_rfl) (by kernel_rfl) (by kernel_rfl) (by kernel_rfl) (by kernel_rfl) (fun _ _ _ h => h) ⟨Or.inl ⟨by kernel_rfl, ?_⟩, fun _ => rfl⟩ HS ?_; rotate_left; (focus (rintro wS ⟨s1, s2⟩; go_simp; try (with_reducible rfl))); (simp only [List.setIfInBounds_toArray, List.set_cons_zero, List.set_cons_succ]))
            (refine takeV (i := 1) (d := 39) (v := ?_) [4, 3] rfl rfl (by kernel_rfl) (by kernel_rfl) (by kernel_rfl) (by kernel_rfl) (by kernel_rfl) (fun _ _ _ h => h) ⟨Or.inl ⟨by kernel_rfl, ?_⟩, fun _ => rfl⟩ HS ?_; rotate_left; (focus (rintro wS ⟨s1, s2⟩; go_simp; try (with_reducible rfl))); (simp only [List.setIfInBounds_toArray, List.set_cons_zero, List.set_cons_succ]))
            (refine takeP (i := 2) (d := 40) (v := ?_) rfl rfl (by kernel_rfl) (by kernel_rfl) (by kernel_rfl) (by kernel_rfl) (by kernel_rfl) (fun _ _ _ h => h) ⟨Or.inl ⟨by kernel_rfl, ?_⟩, fun _ => rfl⟩ (fun _ => HS) ?_; rotate_left; (focus (rintro wS -; go_simp; try (with_reducible rfl))); (simp only [List.setIfInBounds_toArray, List.set_cons_zero, List.set_cons_succ]))
            (refine oneU (i := 3) rfl (by kernel_rfl) (fun K hK => ?_); go_simp)
            refine (CallsIn.inRound _ (callsIn_wide.2 HR.out)).mono ?_
            rintro e w7 ⟨v7, rfl, hR7, hb7⟩
            dsimp only
            have hbW : Below W2.heap.size W2 w7 := hBd.trans (hb7.mono (Nat.le_refl _))
            have HI7 := Aside0.mk (HI2.out.below hbW)
            have HO7 := Aside0.mk ((hbW.block _ (Blk.lt HOO.out)).trans HOO.out)
            have HZ7 := Aside0.mk ((hbW.block _ (Blk.lt HZZ.out)).trans HZZ.out)
            have HV7 := Aside0.mk (Kd.R_below HVV.out hbW)
            have HU7 := Aside0.mk (Kd.R_below HUU.out hbW)
            have hK7 := Aside0.mk (KeepBook.of_below hbW)
            have hkb7 := Aside0.mk ((hbW.block _ (Blk.lt hkb2.out)).trans hkb2.out)
            have hkk7 := Aside0.mk (hkk2.out.below hbW)
            obtain ⟨A7, c7, rfl, hl7, hC7⟩ := Kd.R_reads hR7
            have HS7 : (fun V : World => V.cell? ⟨O, 0, none⟩ = some v ∧ V.cell? ⟨w.heap.size, 0, none⟩ = some (.slice (some ad2) l.length c)) w7 := ⟨Blk.cell HO7.out 0, Blk.cell HI7.out.bL 0⟩
            have hrl := rowsP_len HK0.out yn
            have hlen2 : (out.length + (rowsP l yn).length) * 16 ≤ 140737488355328 := by omega
            have hown : ∀ k, u.ownBlock = some k → k < w7.heap.size := fun k e => by
              obtain ⟨cells, hc⟩ := own_typed HU7.out.2.choose_spec.1 k e
              exact (Array.getElem?_eq_some_iff.1 hc).1
            clear HS HI2 HOO HZZ HVV HUU hb7 hR7 hkb2 hkk2 HR
            refine hK _ _ ⟨fun _ => HS7, ?_⟩
            clear hK K
            (try (simp only [List.setIfInBounds_toArray, List.set_cons_zero, List.set_cons_succ]))
            refine oneU (i := 4) rfl (by kernel_rfl) (fun K hK => ?_)
            rw [if_pos (by kernel_rfl)]
            refine opIn_round (by intro c h; cases h) ?_
            refine of_if_pos (c := Region.wanted _ (yielded #[] _) = true) (B := K (Act.put _ _ undef) w7) (by kernel_rfl) (Kd.R_append_rows_step k35 (Rr := fun x cs => k35.K w7 x cs) (w0 := w) (W := w7) w.heap.size (by kernel_rfl) (.tmp 38) (.tmp 41) 25 35 (.agg #[(.int .i64 0), (.int .i64 0)]) 16 rfl Try.underlying25 laneInfo rfl (by decide) (by omega) v out (rowsP l yn) A7 (rowsP l yn).length c7 (fun k => some k ≠ u.ownBlock) (fun _ => False) rfl rfl HV7.out hC7 (fun x cs h => by rw [k35_open h]; exact k35_mkM _ _ _ _) (fun _ hk => hk.elim) (fun k hk e => by have := hown k e.symm; omega) HI7.out.b HI7.out.b.size hlen2 ?_)
            intro v1 w9 ho1 hb1 hg1 hat1
            obtain ⟨A1', m1, c1', rfl⟩ : ∃ A m c, v1 = .slice A m c := (by obtain ⟨A, c, h⟩ := Kd.R_slice ho1; exact ⟨A, _, c, h⟩)
            have hO' := (hg1.block O (Blk.lt HO7.out) (Kd.R_ne HV7.out HO7.out (by decide))).trans HO7.out
            have y6 : w9.cell? ⟨O, 0, none⟩ = some v := Blk.cell hO' 0
            have f6 := Blk.frozen hO' 0
            have l6 := Blk.lt hO'
            have HO1 := Aside0.mk ho1
            have HB1 := Aside0.mk hb1
            have HG1 := Aside0.mk hg1
            have HAT := Aside0.mk hat1
            have HOo := Aside0.mk hO'
            clear ho1 hb1 hg1 hat1 hO' HS7 hC7
            dsimp only [Act.put]
            refine hK _ _ ⟨no_more (by kernel_rfl), ?_⟩
            clear hK K
            (try (simp only [List.setIfInBounds_toArray, List.set_cons_zero, List.set_cons_succ]))
            (refine oneU (i := 5) rfl (by kernel_rfl) (fun K hK => ?_); go_simp)
            (refine hK _ _ ⟨(no_more (by kernel_rfl)), ?_⟩; clear hK K; (try (simp only [List.setIfInBounds_toArray, List.set_cons_zero, List.set_cons_succ])))
            (refine doneU (by kernel_rfl) ?_ _)
            gi_wp2
            have hbook : KeepBook W2 (w9.setCell ⟨O, 0, none⟩ (.slice A1' m1 c1')) := (hK7.out.grown HG1.out (fun j o e ho => by
              obtain ⟨cells, hc⟩ := own_typed HV7.out.2.choose_spec.1 j e
              rw [hc] at ho; cases ho; rfl)).setCell _ _
            have mv : ∀ {b t : Nat} {cs : Array Value}, Blk w7 b t cs → 35 ≠ t → b ≠ O → Blk (w9.setCell ⟨O, 0, none⟩ (.slice A1' m1 c1')) b t cs := fun {b t cs} h ht hne => Blk.other ((HG1.out.block _ (Blk.lt h) (Kd.R_ne HV7.out h ht)).trans h) (p := ⟨O, 0, none⟩) (by show _ ≠ O; exact hne) _
            have hu7 := Kd.R_set (Kd.R_move (Kd.R_bound HU7.out) (fun k hk => HG1.out.block k hk.2.2.1 hk.1)) HOo.out (by decide) 0 (.slice A1' m1 c1')
            refine ⟨hbook, ?_, mv hkb7.out (by decide) (by omega), ⟨mv hkk7.out.b1 (by decide) (by omega), mv hkk7.out.b2 (by decide) (by omega), mv hkk7.out.b3 (by decide) (by omega)⟩⟩
            rw [HF.out, HE.out]
            exact ⟨mv HI7.out.bL (by decide) (by omega), mv HI7.out.bH (by decide) (by omega), mv HI7.out.bT (by decide) (by omega), ⟨_, u, Blk.set HOo.out 0 _, mv HZ7.out (by decide) (by omega), Kd.R_set HO1.out HOo.out (by decide) 0 _, Kd.R_mono hu7 (fun k hk e => by
              rcases HAT.out with h | ⟨b, h, hb⟩
              · exact hk.1 (e.trans h)
              · rw [h] at e; injection e with e; have := hk.2.2.1; omega)⟩, HB1.out.setCell (p := ⟨O, 0, none⟩) (by show w.heap.size ≤ O; omega) _⟩
end Go.Proofs.Ytdmnaehgngpikaa.K
namespace Go.Proofs.Ytdmnaehgngpikaa.K
open Go.RowKit Go.Proofs.YtdmnaehgngpikaaW.PrintWords Go.Proofs.YtdmnaehgngpikaaW.PrintLast Go.Proofs.YtdmnaehgngpikaaW.PrintMore
set_option linter.unusedVariables false
set_option linter.unusedSimpArgs false
attribute [local go_sem] Oper.semAt_some
def lanes_Rows.f (l : List Nd) (a : Int) : Option (List S35 × Int) := if (linksOf l).length ≤ 1000000000 ∧ (∀ n ∈ l, n.f1.length ≤ 1000) then some (if checkL l a = 0 then (laneRowsP l a.toNat, 0) else ([], checkL l a)) else none
set_option maxRecDepth 100000 in
set_option maxHeartbeats 2000000 in
theorem lanes_Rows.calls (A : Option Addr) (c : Nat) (l : List Nd) (a : Int) (r1 : List S35) (r2 : Int) (w : World) (hr0 : Kd.C k48 w A l.length l) (hc0 : l.length ≤ c) (h : lanes_Rows.f l a = some (r1, r2)) :
    Calls Try.prog 16 #[.slice A l.length c, .int .i64 a] w fun e w' => ∃ v0_ : Value, e = .returned (.tuple #[v0_, .int .i64 r2]) ∧ Kd.R k35 35 w' w.heap.size (fun _ => True) v0_ r1 ∧ Below w.heap.size w w' := by
  unfold lanes_Rows.f at h
  by_cases hl : (linksOf l).length ≤ 1000000000 ∧ (∀ n ∈ l, n.f1.length ≤ 1000)
  · rw [if_pos hl] at h
    have hh := Option.some.inj h
    clear h
    by_cases q : checkL l a = 0
    · rw [if_pos q] at hh
      injection hh with h1 h2
      subst h1 h2
      obtain ⟨hok, n, rfl, hn, -⟩ := checkL_ok q
      rw [Int.toNat_natCast]
      exact rows_yes l A c w hr0 hc0 hl.1 hl.2 n hn hok.kidsIn q
    · rw [if_neg q] at hh
      injection hh with h1 h2
      subst h1 h2
      have hq2 : (checkL l a != 0) = true := by simp [q]
      have hB0 : Below w.heap.size w (w.alloc (.cells #[.slice A l.length c] 22)) := (Below.refl _ w).alloc (Nat.le_refl _) _
      have HCH := Lib.hid (lcheck_any l A c _ (Kd.C_below hr0 hB0) hc0 hl.1 a)
      clear hr0 hc0 hl
      generalize checkL l a = er at HCH q hq2 ⊢
      refine calls_of_wp_marks Try.func16 rfl ?_
      simp only [Try.ntmps16, List.size_toArray, List.length_cons, List.length_nil, Nat.reduceAdd, Nat.reduceSub, Array.replicate_succ, Array.replicate_zero, List.push_toArray, List.append_toArray, List.nil_append, List.cons_append]
      go_upto_region 1 with fail
      go_step3
      go_wp2_with (go_at_call 23; refine HCH.out.mono ?_; rintro e w1 ⟨rfl, hb⟩; have HB := Lib.hid (hB0.trans (hb.mono hB0.size)); clear hb HCH hB0)
      refine leaves_marks (v := .tuple #[.slice none 0 0, .int .i64 er]) (B := w.heap.size) ⟨[], rfl, by simp, by simp⟩ (fun W' hs => ⟨?_, _, rfl, Kd.R_nil _ _ _ _ _, hs.stab _ (Stab.below (Nat.le_refl _) (Nat.le_refl _)) HB.out⟩)
      simp [results, Try.results16]
  · rw [if_neg hl] at h; cases h
end Go.Proofs.Ytdmnaehgngpikaa.K
