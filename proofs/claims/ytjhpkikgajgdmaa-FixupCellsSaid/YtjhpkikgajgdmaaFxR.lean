/- Layer 5: the iterator of runs. -/
import Derived.Test.YtjhpkikgajgdmaaTrB
import Derived.Test.YtjhpkikgajgdmaaFxM
import Derived.Test.YtjhpkikgajgdmaaRange
namespace Go.Proofs.Ytjhpkikgajgdmaa
open Go
set_option linter.unusedVariables false
set_option linter.unusedSimpArgs false
section
variable {F : Fence} {n : Nat} {P : Program} {ops : Array Oper} {Q : Exit → Act → World → Prop} {md : Region.Mode} {S : World → Prop} {k0 : Nat}

/-- each of the path awaits the next, the last one awaits i -/
def chainB (md : Region.Mode) (ops : Array Oper) : List Nat → Nat → Bool
  | [], _ => true
  | [p], i => waitsB md ops p i
  | p :: q :: r, i => waitsB md ops p q && chainB md ops (q :: r) i
theorem chain_not_ready {i : Nat} {listed : Array Bool} (hu : listed.getD i true = false) : ∀ path : List Nat, chainB md ops path i = true → (∀ p ∈ path, listed.getD p true = false) → ∀ p ∈ path, p ∉ Region.ready md ops listed
  | [], _, _, p, hp => by cases hp
  | [p0], h, _, p, hp => by
    obtain rfl := List.mem_singleton.1 hp
    exact waits_not_ready h hu
  | p0 :: q :: r, h, hl, p, hp => by
    unfold chainB at h
    rw [Bool.and_eq_true] at h
    rcases List.mem_cons.1 hp with rfl | hp
    · exact waits_not_ready h.1 (hl q (List.mem_cons_of_mem _ (List.mem_cons_self ..)))
    · exact chain_not_ready hu (q :: r) h.2 (fun p hp => hl p (List.mem_cons_of_mem _ hp)) p hp

theorem wpAnyInU_path {i : Nat} {oi : Oper} {v : Value} {path : List Nat} (hd : noDefer ops = true) (hi : ops[i]? = some oi) (hsel : ∀ (j : Nat) (o : Oper) cs b, ops[j]? = some o → o.op ≠ .select cs b)
    (hQ : ∀ c a w, Q (.panic c) (a.put oi.dst v) w → Q (.panic c) a w) (hp0 : k0 ∈ path) (hw : chainB md ops path i = true) (hik : i ≠ k0) :
    ∀ (fuel : Nat) (listed : Array Bool) (a : Act) (w : World),
      (∀ j oj, ops[j]? = some oj → j ≠ i → listed.getD j true = false → (∀ e ∈ oj.after, Region.binds md e = true → e.on ≠ i) → oi.apart ops oj = true) →
      i ∈ Region.ready md ops listed → YieldsH P ops S oi v a → S w → (∀ p ∈ path, listed.getD p true = false) →
      wpAnyInU F n P md ops Q S k0 fuel (listed.setIfInBounds i true) (a.put oi.dst v) w → wpAnyInU F n P md ops Q S k0 (fuel + 1) listed a w := by
  intro fuel
  induction fuel with
  | zero =>
    intro listed a w _ hr hy hS hk H
    refine ⟨fun h => (by rw [h] at hr; cases hr), fun j hj => ?_⟩
    by_cases hji : j = i
    · subst hji; exact hy.wpOpIn hd hi hS ⟨fun _ => hS, H⟩
    · have := ready_mono hj hji
      rw [H.1] at this
      cases this
  | succ fuel ih =>
    intro listed a w hfree hr hy hS hk H
    refine ⟨fun h => (by rw [h] at hr; cases hr), fun j hj => ?_⟩
    by_cases hji : j = i
    · subst hji; exact hy.wpOpIn hd hi hS ⟨fun _ => hS, H⟩
    · have h1 := H.2 j (ready_mono hj hji)
      obtain ⟨hjun, oj, hoj, hall⟩ := mem_ready.1 hj
      have hiun : listed.getD i true = false := (mem_ready.1 hr).1
      have hjp : ∀ p ∈ path, j ≠ p := fun p hp e => chain_not_ready hiun path hw hk p hp (e ▸ hj)
      have hjk : j ≠ k0 := hjp k0 hp0
      have hnot : ∀ e ∈ oj.after, Region.binds md e = true → e.on ≠ i := fun e he hb heq => by
        have h1 := hall e he hb
        have h0 := (mem_ready.1 hr).1
        rw [heq] at h1
        rcases Nat.lt_or_ge i listed.size with h' | h'
        · simp [h'] at h0 h1; rw [h0] at h1; cases h1
        · simp [Array.getElem?_eq_none h'] at h1
      have h2 := wpOpIn_putH hd hoj (hfree j oj hoj hji hjun hnot) (fun cs b => hsel i oi cs b hi) (fun cs b => hsel j oj cs b hoj) hQ hy h1
      have hfree' : ∀ k ok, ops[k]? = some ok → k ≠ i → (listed.setIfInBounds j true).getD k true = false →
          (∀ e ∈ ok.after, Region.binds md e = true → e.on ≠ i) → oi.apart ops ok = true := fun k ok hk hki hun hno => by
        refine hfree k ok hk hki ?_ hno
        by_cases hjk : j = k
        · subst hjk; exact hjun
        · rw [getD_set_ne true hjk] at hun; exact hun
      have hk1 : ∀ p ∈ path, (listed.setIfInBounds j true).getD p true = false := fun p hp => by rw [getD_set_ne true (hjp p hp)]; exact hk p hp
      have hk2 : ((listed.setIfInBounds i true).setIfInBounds j true).getD k0 true = false := by rw [getD_set_ne true hjk, getD_set_ne true hik]; exact hk k0 hp0
      refine wpOpIn_mono (fun a' w' h3 => ⟨fun _ => h3.2.1 hk2, ih (listed.setIfInBounds j true) a' w' hfree' (ready_mono hr (Ne.symm hji)) h3.1 (h3.2.1 hk2) hk1 ?_⟩) h2
      rw [Array.setIfInBounds_comm _ _ hji]
      exact h3.2.2

/-- take number i first -/
theorem takeV {i : Nat} {d : Tmp} {oi : Oper} {v : Value} {fuel : Nat} {listed : Array Bool} {a : Act} {w : World} (path : List Nat) (hi : ops[i]? = some oi) (hdst : oi.dst = some d) (hd : noDefer ops = true)
    (hs : Region.noSelect ops = true) (hf : Region.free md ops listed i = true) (hr : (Region.ready md ops listed).contains i = true)
    (hw : (chainB md ops path i && !(i == k0) && path.contains k0 && path.all fun p => !(listed.getD p true)) = true)
    (hQ : ∀ c a w, Q (.panic c) (a.put oi.dst v) w → Q (.panic c) a w) (hy : YieldsH P ops S oi v a) (hS : S w)
    (h : wpAnyInU F n P md ops Q S k0 fuel (listed.setIfInBounds i true) { tmps := a.tmps.setIfInBounds d v, defers := a.defers } w) : wpAnyInU F n P md ops Q S k0 (fuel + 1) listed a w := by
  simp only [Bool.and_eq_true, Bool.not_eq_true', beq_eq_false_iff_ne, List.contains_iff_mem, List.all_eq_true] at hw
  exact wpAnyInU_path hd hi (Region.noSelect_spec hs) hQ hw.1.2 hw.1.1.1 hw.1.1.2 fuel listed a w (Region.free_spec hi hf) (by simpa using hr) hy hS hw.2 (by unfold Act.put; rw [hdst]; exact h)
end
end Go.Proofs.Ytjhpkikgajgdmaa
namespace Go.Proofs.Ytjhpkikgajgdmaa.K
open Go.RowKit Go.Proofs.YtjhpkikgajgdmaaW.PrintWords Go.Proofs.YtjhpkikgajgdmaaW.PrintLast Go.Proofs.YtjhpkikgajgdmaaW.PrintMore
set_option linter.unusedVariables false
set_option linter.unusedSimpArgs false
attribute [local go_sem] Oper.semAt_some

theorem grown_of {A B : World} (h : Below A.heap.size A B) : A.grownBy B none := ⟨h.os, h.tape, h.output, h.size, fun q hq _ => h.block q hq⟩
/-- runs from place i on, the run begun at f; d kids are left -/
def runsG (m : Nat → Bool) (n : Nat) : Nat → Nat → Nat → List (Nat × Nat × Bool)
  | 0, _, _ => []
  | d + 1, f, i => if i + 1 < n ∧ m (i + 1) = m i then runsG m n d f (i + 1) else (f, i + 1, m i) :: runsG m n d (i + 1) (i + 1)
def runsF (m : Nat → Bool) (n : Nat) : List (Nat × Nat × Bool) := runsG m n n 0 0
def runV (A : Option Addr) (x : Nat × Nat × Bool) : Array Value := #[.slice (A.map (·.add x.1)) (x.2.1 - x.1) (x.2.1 - x.1), .bool x.2.2]
/-- what runs reads -/
structure RunsRd (b1 b2 : Nat) (kd : Int) (Ak : Option Addr) (n ck : Nat) (Al : Option Addr) (ln cl : Nat) (kid : Nat → Nat) (kk : Nat → Int) (W : World) : Prop where
  c0 : W.cell? ⟨b1, 0, none⟩ = some (.int .i64 kd)
  c1 : W.cell? ⟨b1, 1, none⟩ = some (.slice Ak n ck)
  c2 : W.cell? ⟨b2, 0, none⟩ = some (.slice Al ln cl)
  at_ : ∀ i, i < n → kid i < ln ∧ ∃ ak ad, Ak = some ak ∧ Al = some ad ∧ W.cell? (ak.add i) = some (.int .i64 (kid i : Nat)) ∧ W.cell? (ad.add (kid i * 34)) = some (.int .i64 (kk i))
theorem add_succ_at (a : Addr) (i : Nat) : a.add (i + 1) = ⟨a.block, a.off + (i + 1), none⟩ := by unfold Addr.add; simp
theorem runsG_last (m : Nat → Bool) (n f i : Nat) : runsG m n 0 f i = [] := rfl
set_option maxRecDepth 100000 in
set_option maxHeartbeats 4000000 in
theorem runs1_iter (b1 b2 : Nat) (kd : Int) (Ak : Option Addr) (n ck : Nat) (Al : Option Addr) (ln cl : Nat) (kid : Nat → Nat) (kk : Nat → Int) (hn : n < 1000000000) (hck : n ≤ ck) (hln : ln < 1000000000) :
    IterC Try.prog 42 #[.pointer (some ⟨b1, 0, none⟩), .pointer (some ⟨b2, 0, none⟩)] (runV Ak) (runsF (fun i => mayB kd (kk i)) n) (RunsRd b1 b2 kd Ak n ck Al ln cl kid kk) := by
  intro lp J Jx W hJ hJx hRd hY h0
  obtain ⟨y0, y1, y2, -⟩ := hRd [] W h0
  have HY := Lib.hid hY
  have HR := Lib.hid hRd
  have HJ := Lib.hid hJ
  clear hY hRd hJ hJx
  refine callsIn_wide.1 (callsIn_of_wp (n := 0) Try.func42 rfl trivial ?_ rfl)
  simp only [Try.ntmps42, List.size_toArray, List.length_cons, List.length_nil, Nat.reduceAdd, Nat.reduceSub, Array.replicate_succ, Array.replicate_zero, List.push_toArray, List.append_toArray, List.nil_append, List.cons_append]
  gi_wp2
  clear y0 y1 y2
  gi_loopw [4, 10] (fun fv iv wr => ∃ (f i : Nat) (pre : List (Nat × Nat × Bool)), i ≤ n ∧ f ≤ i ∧ fv = .int .i64 f ∧ iv = .int .i64 i ∧ runsF (fun i => mayB kd (kk i)) n = pre ++ runsG (fun i => mayB kd (kk i)) n (n - i) f i ∧ Aside0 (J pre wr)) (fun _ i _ => n - (intOf i).toNat)
  case atStart => exact ⟨0, 0, [], by omega, by omega, rfl, rfl, rfl, ⟨h0⟩⟩
  case round =>
    obtain ⟨f, i, pre, hi, hf, rfl, rfl, hE, HJi⟩ := hrel
    have HE := Lib.hid hE
    clear h0 hE
    by_cases hlt : i < n
    · have hdlt : decide (i < n) = true := decide_eq_true hlt
      obtain ⟨z0, z1, z2, hat⟩ := HR.out _ _ HJi.out
      obtain ⟨hkl, ak, ad, rfl, rfl, hx0, hx1⟩ := hat i hlt
      clear hat
      have hkz : ((kid i : Nat) : Int) < (ln : Int) := by omega
      gi_upto_region 4 with fail
      refine beginU (fun V : World => ((V.cell? ⟨b1, 0, none⟩ = some (.int .i64 kd) ∧ V.cell? ⟨b1, 1, none⟩ = some (.slice (some ak) n ck)) ∧ V.cell? ⟨b2, 0, none⟩ = some (.slice (some ad) ln cl)) ∧ V.cell? (ak.add i) = some (.int .i64 (kid i : Nat)) ∧ V.cell? (ad.add (kid i * 34)) = some (.int .i64 (kk i))) 11 (by kernel_rfl) ?_
      have HS : (fun V : World => ((V.cell? ⟨b1, 0, none⟩ = some (.int .i64 kd) ∧ V.cell? ⟨b1, 1, none⟩ = some (.slice (some ak) n ck)) ∧ V.cell? ⟨b2, 0, none⟩ = some (.slice (some ad) ln cl)) ∧ V.cell? (ak.add i) = some (.int .i64 (kid i : Nat)) ∧ V.cell? (ad.add (kid i * 34)) = some (.int .i64 (kk i))) wr.drew := ⟨⟨⟨z0, z1⟩, z2⟩, hx0, hx1⟩
      have HJ5 := Lib.hid (HJ.out _ _ _ HJi.out (grown_of ((Below.refl _ wr).drew)))
      clear z0 z1 z2 hx0 hx1 HJi
      generalize wr.drew = w5 at HS HJ5 ⊢
      (refine takeP (i := 0) (d := 13) (v := ?_) rfl rfl (by kernel_rfl) (by kernel_rfl) (by kernel_rfl) (by kernel_rfl) (by kernel_rfl) (fun _ _ _ h => h) ⟨Or.inl ⟨by kernel_rfl, ?_⟩, fun _ => rfl⟩ (fun _ => HS) ?_; rotate_left; (focus (rintro wS -; go_simp; try (with_reducible rfl))); (simp only [List.setIfInBounds_toArray, List.set_cons_zero, List.set_cons_succ]))
      (refine takeU (i := 1) (d := 14) (v := ?_) rfl rfl (by kernel_rfl) (by kernel_rfl) (by kernel_rfl) (by kernel_rfl) (by kernel_rfl) (by kernel_rfl) (fun _ _ _ h => h) ⟨Or.inl ⟨by kernel_rfl, ?_⟩, fun _ => rfl⟩ HS ?_; rotate_left; (focus (rintro wS ⟨⟨⟨s1, s2⟩, s3⟩, s4, s5⟩; go_simp; try (with_reducible rfl))); (simp only [List.setIfInBounds_toArray, List.set_cons_zero, List.set_cons_succ]))
      (refine takeV (i := 2) (d := 15) (v := ?_) [11, 10, 9, 8] rfl rfl (by kernel_rfl) (by kernel_rfl) (by kernel_rfl) (by kernel_rfl) (by kernel_rfl) (fun _ _ _ h => h) ⟨Or.inl ⟨by kernel_rfl, ?_⟩, fun _ => rfl⟩ HS ?_; rotate_left; (focus (rintro wS ⟨⟨⟨s1, s2⟩, s3⟩, s4, s5⟩; go_simp; try (with_reducible rfl))); (simp only [List.setIfInBounds_toArray, List.set_cons_zero, List.set_cons_succ]))
      (refine takeP (i := 3) (d := 16) (v := ?_) rfl rfl (by kernel_rfl) (by kernel_rfl) (by kernel_rfl) (by kernel_rfl) (by kernel_rfl) (fun _ _ _ h => h) ⟨Or.inl ⟨by kernel_rfl, ?_⟩, fun _ => rfl⟩ (fun _ => HS) ?_; rotate_left; (focus (rintro wS -; go_simp; try (with_reducible rfl))); (simp only [List.setIfInBounds_toArray, List.set_cons_zero, List.set_cons_succ]))
      (refine takeV (i := 4) (d := 17) (v := ?_) [11, 10, 9, 8, 7, 6] rfl rfl (by kernel_rfl) (by kernel_rfl) (by kernel_rfl) (by kernel_rfl) (by kernel_rfl) (fun _ _ _ h => h) ⟨Or.inl ⟨by kernel_rfl, ?_⟩, fun _ => rfl⟩ HS ?_; rotate_left; (focus (rintro wS ⟨⟨⟨s1, s2⟩, s3⟩, s4, s5⟩; go_simp; try (with_reducible rfl))); (simp only [List.setIfInBounds_toArray, List.set_cons_zero, List.set_cons_succ]))
      (refine takeP (i := 5) (d := 18) (v := ?_) rfl rfl (by kernel_rfl) (by kernel_rfl) (by kernel_rfl) (by kernel_rfl) (by kernel_rfl) (fun _ _ _ h => h) ⟨Or.inl ⟨by kernel_rfl, ?_⟩, fun _ => rfl⟩ (fun _ => HS) ?_; rotate_left; (focus (rintro wS -; go_simp; try (with_reducible rfl))); (simp only [List.setIfInBounds_toArray, List.set_cons_zero, List.set_cons_succ]))
      (refine takeP (i := 6) (d := 19) (v := ?_) rfl rfl (by kernel_rfl) (by kernel_rfl) (by kernel_rfl) (by kernel_rfl) (by kernel_rfl) (fun _ _ _ h => h) ⟨Or.inl ⟨by kernel_rfl, ?_⟩, fun _ => rfl⟩ (fun _ => HS) ?_; rotate_left; (focus (rintro wS -; go_simp; try (with_reducible rfl))); (simp only [List.setIfInBounds_toArray, List.set_cons_zero, List.set_cons_succ]))
      (refine takeV (i := 7) (d := 20) (v := ?_) [11, 10, 9, 8] rfl rfl (by kernel_rfl) (by kernel_rfl) (by kernel_rfl) (by kernel_rfl) (by kernel_rfl) (fun _ _ _ h => h) ⟨Or.inl ⟨by kernel_rfl, ?_⟩, fun _ => rfl⟩ HS ?_; rotate_left; (focus (rintro wS ⟨⟨⟨s1, s2⟩, s3⟩, s4, s5⟩; go_simp; try (with_reducible rfl))); (simp only [List.setIfInBounds_toArray, List.set_cons_zero, List.set_cons_succ]))
      (refine takeP (i := 8) (d := 21) (v := ?_) rfl rfl (by kernel_rfl) (by kernel_rfl) (by kernel_rfl) (by kernel_rfl) (by kernel_rfl) (fun _ _ _ h => h) ⟨Or.inl ⟨by kernel_rfl, ?_⟩, fun _ => rfl⟩ (fun _ => HS) ?_; rotate_left; (focus (rintro wS -; go_simp; try (with_reducible rfl))); (simp only [List.setIfInBounds_toArray, List.set_cons_zero, List.set_cons_succ]))
      (refine takeP (i := 9) (d := 22) (v := ?_) rfl rfl (by kernel_rfl) (by kernel_rfl) (by kernel_rfl) (by kernel_rfl) (by kernel_rfl) (fun _ _ _ h => h) ⟨Or.inl ⟨by kernel_rfl, ?_⟩, fun _ => rfl⟩ (fun _ => HS) ?_; rotate_left; (focus (rintro wS -; go_simp; try (with_reducible rfl))); (simp only [List.setIfInBounds_toArray, List.set_cons_zero, List.set_cons_succ]))
      (refine takeU (i := 10) (d := 23) (v := ?_) rfl rfl (by kernel_rfl) (by kernel_rfl) (by kernel_rfl) (by kernel_rfl) (by kernel_rfl) (by kernel_rfl) (fun _ _ _ h => h) ⟨Or.inl ⟨by kernel_rfl, ?_⟩, fun _ => rfl⟩ HS ?_; rotate_left; (focus (rintro wS ⟨⟨⟨s1, s2⟩, s3⟩, s4, s5⟩; go_simp; try (with_reducible rfl))); (simp only [List.setIfInBounds_toArray, List.set_cons_zero, List.set_cons_succ]))
      (refine oneU (i := 11) rfl (by kernel_rfl) (fun K hK => ?_); go_simp)
      refine (callsIn_wide.2 (may_any kd (kk i) w5)).mono ?_
      rintro e w6 ⟨rfl, hb6⟩
      dsimp only
      have HJ6 := Lib.hid (HJ.out _ _ _ HJ5.out (grown_of hb6))
      clear HS HJ5 hb6
      (refine hK _ _ ⟨(no_more (by kernel_rfl)), ?_⟩; clear hK K; (try (simp only [List.setIfInBounds_toArray, List.set_cons_zero, List.set_cons_succ])))
      generalize hbb : mayB kd (kk i) = bb
      (refine takeP (i := 12) (d := 6) (v := ?_) rfl rfl (by kernel_rfl) (by kernel_rfl) (by kernel_rfl) (by kernel_rfl) (by kernel_rfl) (fun _ _ _ h => h) ⟨Or.inl ⟨by kernel_rfl, ?_⟩, fun _ => rfl⟩ (no_more (by kernel_rfl)) ?_; rotate_left; (focus (rintro wS -; go_simp; try (with_reducible rfl))); (simp only [List.setIfInBounds_toArray, List.set_cons_zero, List.set_cons_succ]))
      (refine doneU (by kernel_rfl) ?_ _)
      gi_upto_region 5 with fail
      by_cases hnx : i + 1 < n
      · have hda : decide ((i : Int) + 1 < (n : Int)) = true := decide_eq_true (by omega)
        have hdb : decide (i + 1 < n) = true := decide_eq_true hnx
        obtain ⟨z0, z1, z2, hat⟩ := HR.out _ _ HJ6.out
        obtain ⟨hkl2, ak2, ad2, ea, eb, hx0, hx1⟩ := hat (i + 1) hnx
        cases ea
        cases eb
        clear hat
        have hwi : IntKind.i64.wrap ((i : Int) + 1) = (i : Int) + 1 := IntWalk.i64_in _ (by omega)
        rw [add_succ_at] at hx0
        have h0le : (0 : Int) ≤ (i : Int) + 1 := by omega
        have hnz : (i : Int) + 1 < (n : Int) := by omega
        have hn0 : ¬ ((i : Int) + 1 < 0) := by omega
        have htn : ((i : Int) + 1).toNat = i + 1 := by omega
        have hkz2 : ((kid (i + 1) : Nat) : Int) < (ln : Int) := by omega
        refine beginU (fun V : World => ((V.cell? ⟨b1, 0, none⟩ = some (.int .i64 kd) ∧ V.cell? ⟨b1, 1, none⟩ = some (.slice (some ak) n ck)) ∧ V.cell? ⟨b2, 0, none⟩ = some (.slice (some ad) ln cl)) ∧ V.cell? ⟨ak.block, ak.off + (i + 1), none⟩ = some (.int .i64 (kid (i + 1) : Nat)) ∧ V.cell? (ad.add (kid (i + 1) * 34)) = some (.int .i64 (kk (i + 1)))) 19 (by kernel_rfl) ?_
        have HS : (fun V : World => ((V.cell? ⟨b1, 0, none⟩ = some (.int .i64 kd) ∧ V.cell? ⟨b1, 1, none⟩ = some (.slice (some ak) n ck)) ∧ V.cell? ⟨b2, 0, none⟩ = some (.slice (some ad) ln cl)) ∧ V.cell? ⟨ak.block, ak.off + (i + 1), none⟩ = some (.int .i64 (kid (i + 1) : Nat)) ∧ V.cell? (ad.add (kid (i + 1) * 34)) = some (.int .i64 (kk (i + 1)))) w6.drew := ⟨⟨⟨z0, z1⟩, z2⟩, hx0, hx1⟩
        have HJ7 := Lib.hid (HJ.out _ _ _ HJ6.out (grown_of ((Below.refl _ w6).drew)))
        clear z0 z1 z2 hx0 hx1 HJ6
        generalize w6.drew = w7 at HS HJ7 ⊢
        (refine takeP (i := 0) (d := 25) (v := ?_) rfl rfl (by kernel_rfl) (by kernel_rfl) (by kernel_rfl) (by kernel_rfl) (by kernel_rfl) (fun _ _ _ h => h) ⟨Or.inl ⟨by kernel_rfl, ?_⟩, fun _ => rfl⟩ (fun _ => HS) ?_; rotate_left; (focus (rintro wS -; go_simp; try (with_reducible rfl))); (simp only [List.setIfInBounds_toArray, List.set_cons_zero, List.set_cons_succ]))
        (refine takeP (i := 1) (d := 26) (v := ?_) rfl rfl (by kernel_rfl) (by kernel_rfl) (by kernel_rfl) (by kernel_rfl) (by kernel_rfl) (fun _ _ _ h => h) ⟨Or.inl ⟨by kernel_rfl, ?_⟩, fun _ => rfl⟩ (fun _ => HS) ?_; rotate_left; (focus (rintro wS -; go_simp; try (with_reducible rfl))); (simp only [List.setIfInBounds_toArray, List.set_cons_zero, List.set_cons_succ]))
        (refine takeP (i := 2) (d := 27) (v := ?_) rfl rfl (by kernel_rfl) (by kernel_rfl) (by kernel_rfl) (by kernel_rfl) (by kernel_rfl) (fun _ _ _ h => h) ⟨Or.inl ⟨by kernel_rfl, ?_⟩, fun _ => rfl⟩ (fun _ => HS) ?_; rotate_left; (focus (rintro wS -; go_simp; try (with_reducible rfl))); (simp only [List.setIfInBounds_toArray, List.set_cons_zero, List.set_cons_succ]))
        (refine takeV (i := 3) (d := 28) (v := ?_) [19, 6, 5, 4] rfl rfl (by kernel_rfl) (by kernel_rfl) (by kernel_rfl) (by kernel_rfl) (by kernel_rfl) (fun _ _ _ h => h) ⟨Or.inl ⟨by kernel_rfl, ?_⟩, fun _ => rfl⟩ HS ?_; rotate_left; (focus (rintro wS ⟨⟨⟨s1, s2⟩, s3⟩, s4, s5⟩; go_simp; try (with_reducible rfl))); (simp only [List.setIfInBounds_toArray, List.set_cons_zero, List.set_cons_succ]))
        (refine takeP (i := 4) (d := 29) (v := ?_) rfl rfl (by kernel_rfl) (by kernel_rfl) (by kernel_rfl) (by kernel_rfl) (by kernel_rfl) (fun _ _ _ h => h) ⟨Or.inl ⟨by kernel_rfl, ?_⟩, fun _ => rfl⟩ (fun _ => HS) ?_; rotate_left; (focus (rintro wS -; go_simp; try (with_reducible rfl))); (simp only [List.setIfInBounds_toArray, List.set_cons_zero, List.set_cons_succ]))
        (refine takeP (i := 5) (d := 30) (v := ?_) rfl rfl (by kernel_rfl) (by kernel_rfl) (by kernel_rfl) (by kernel_rfl) (by kernel_rfl) (fun _ _ _ h => h) ⟨Or.inl ⟨by kernel_rfl, ?_⟩, fun _ => rfl⟩ (fun _ => HS) ?_; rotate_left; (focus (rintro wS -; go_simp; try (with_reducible rfl))); (simp only [List.setIfInBounds_toArray, List.set_cons_zero, List.set_cons_succ]))
        (refine takeP (i := 6) (d := 31) (v := ?_) rfl rfl (by kernel_rfl) (by kernel_rfl) (by kernel_rfl) (by kernel_rfl) (by kernel_rfl) (fun _ _ _ h => h) ⟨Or.inl ⟨by kernel_rfl, ?_⟩, fun _ => rfl⟩ (fun _ => HS) ?_; rotate_left; (focus (rintro wS -; go_simp; try (with_reducible rfl))); (simp only [List.setIfInBounds_toArray, List.set_cons_zero, List.set_cons_succ]))
        (refine takeP (i := 7) (d := 32) (v := ?_) rfl rfl (by kernel_rfl) (by kernel_rfl) (by kernel_rfl) (by kernel_rfl) (by kernel_rfl) (fun _ _ _ h => h) ⟨Or.inl ⟨by kernel_rfl, ?_⟩, fun _ => rfl⟩ (fun _ => HS) ?_; rotate_left; (focus (rintro wS -; go_simp; try (with_reducible rfl))); (simp only [List.setIfInBounds_toArray, List.set_cons_zero, List.set_cons_succ]))
        (refine takeU (i := 8) (d := 33) (v := ?_) rfl rfl (by kernel_rfl) (by kernel_rfl) (by kernel_rfl) (by kernel_rfl) (by kernel_rfl) (by kernel_rfl) (fun _ _ _ h => h) ⟨Or.inl ⟨by kernel_rfl, ?_⟩, fun _ => rfl⟩ HS ?_; rotate_left; (focus (rintro wS ⟨⟨⟨s1, s2⟩, s3⟩, s4, s5⟩; go_simp; try (with_reducible rfl))); (simp only [List.setIfInBounds_toArray, List.set_cons_zero, List.set_cons_succ]))
        (refine takeV (i := 9) (d := 34) (v := ?_) [19, 18, 17, 16] rfl rfl (by kernel_rfl) (by kernel_rfl) (by kernel_rfl) (by kernel_rfl) (by kernel_rfl) (fun _ _ _ h => h) ⟨Or.inl ⟨by kernel_rfl, ?_⟩, fun _ => rfl⟩ HS ?_; rotate_left; (focus (rintro wS ⟨⟨⟨s1, s2⟩, s3⟩, s4, s5⟩; go_simp; try (with_reducible rfl))); (simp only [List.setIfInBounds_toArray, List.set_cons_zero, List.set_cons_succ]))
        (refine takeP (i := 10) (d := 35) (v := ?_) rfl rfl (by kernel_rfl) (by kernel_rfl) (by kernel_rfl) (by kernel_rfl) (by kernel_rfl) (fun _ _ _ h => h) ⟨Or.inl ⟨by kernel_rfl, ?_⟩, fun _ => rfl⟩ (fun _ => HS) ?_; rotate_left; (focus (rintro wS -; go_simp; try (with_reducible rfl))); (simp only [List.setIfInBounds_toArray, List.set_cons_zero, List.set_cons_succ]))
        (refine takeV (i := 11) (d := 36) (v := ?_) [19, 18, 17, 16, 15, 14] rfl rfl (by kernel_rfl) (by kernel_rfl) (by kernel_rfl) (by kernel_rfl) (by kernel_rfl) (fun _ _ _ h => h) ⟨Or.inl ⟨by kernel_rfl, ?_⟩, fun _ => rfl⟩ HS ?_; rotate_left; (focus (rintro wS ⟨⟨⟨s1, s2⟩, s3⟩, s4, s5⟩; go_simp; try (with_reducible rfl))); (simp only [List.setIfInBounds_toArray, List.set_cons_zero, List.set_cons_succ]))
        (refine takeP (i := 12) (d := 37) (v := ?_) rfl rfl (by kernel_rfl) (by kernel_rfl) (by kernel_rfl) (by kernel_rfl) (by kernel_rfl) (fun _ _ _ h => h) ⟨Or.inl ⟨by kernel_rfl, ?_⟩, fun _ => rfl⟩ (fun _ => HS) ?_; rotate_left; (focus (rintro wS -; go_simp; try (with_reducible rfl))); (simp only [List.setIfInBounds_toArray, List.set_cons_zero, List.set_cons_succ]))
        (refine takeP (i := 13) (d := 38) (v := ?_) rfl rfl (by kernel_rfl) (by kernel_rfl) (by kernel_rfl) (by kernel_rfl) (by kernel_rfl) (fun _ _ _ h => h) ⟨Or.inl ⟨by kernel_rfl, ?_⟩, fun _ => rfl⟩ (fun _ => HS) ?_; rotate_left; (focus (rintro wS -; go_simp; try (with_reducible rfl))); (simp only [List.setIfInBounds_toArray, List.set_cons_zero, List.set_cons_succ]))
        (refine takeP (i := 14) (d := 39) (v := ?_) rfl rfl (by kernel_rfl) (by kernel_rfl) (by kernel_rfl) (by kernel_rfl) (by kernel_rfl) (fun _ _ _ h => h) ⟨Or.inl ⟨by kernel_rfl, ?_⟩, fun _ => rfl⟩ (fun _ => HS) ?_; rotate_left; (focus (rintro wS -; go_simp; try (with_reducible rfl))); (simp only [List.setIfInBounds_toArray, List.set_cons_zero, List.set_cons_succ]))
        (refine takeV (i := 15) (d := 40) (v := ?_) [19, 18, 17, 16] rfl rfl (by kernel_rfl) (by kernel_rfl) (by kernel_rfl) (by kernel_rfl) (by kernel_rfl) (fun _ _ _ h => h) ⟨Or.inl ⟨by kernel_rfl, ?_⟩, fun _ => rfl⟩ HS ?_; rotate_left; (focus (rintro wS ⟨⟨⟨s1, s2⟩, s3⟩, s4, s5⟩; go_simp; try (with_reducible rfl))); (simp only [List.setIfInBounds_toArray, List.set_cons_zero, List.set_cons_succ]))
        (refine takeP (i := 16) (d := 41) (v := ?_) rfl rfl (by kernel_rfl) (by kernel_rfl) (by kernel_rfl) (by kernel_rfl) (by kernel_rfl) (fun _ _ _ h => h) ⟨Or.inl ⟨by kernel_rfl, ?_⟩, fun _ => rfl⟩ (fun _ => HS) ?_; rotate_left; (focus (rintro wS -; go_simp; try (with_reducible rfl))); (simp only [List.setIfInBounds_toArray, List.set_cons_zero, List.set_cons_succ]))
        (refine takeP (i := 17) (d := 42) (v := ?_) rfl rfl (by kernel_rfl) (by kernel_rfl) (by kernel_rfl) (by kernel_rfl) (by kernel_rfl) (fun _ _ _ h => h) ⟨Or.inl ⟨by kernel_rfl, ?_⟩, fun _ => rfl⟩ (fun _ => HS) ?_; rotate_left; (focus (rintro wS -; go_simp; try (with_reducible rfl))); (simp only [List.setIfInBounds_toArray, List.set_cons_zero, List.set_cons_succ]))
        (refine takeU (i := 18) (d := 43) (v := ?_) rfl rfl (by kernel_rfl) (by kernel_rfl) (by kernel_rfl) (by kernel_rfl) (by kernel_rfl) (by kernel_rfl) (fun _ _ _ h => h) ⟨Or.inl ⟨by kernel_rfl, ?_⟩, fun _ => rfl⟩ HS ?_; rotate_left; (focus (rintro wS ⟨⟨⟨s1, s2⟩, s3⟩, s4, s5⟩; go_simp; try (with_reducible rfl))); (simp only [List.setIfInBounds_toArray, List.set_cons_zero, List.set_cons_succ]))
        (refine takeP (i := 20) (d := 45) (v := ?_) rfl rfl (by kernel_rfl) (by kernel_rfl) (by kernel_rfl) (by kernel_rfl) (by kernel_rfl) (fun _ _ _ h => h) ⟨Or.inl ⟨by kernel_rfl, ?_⟩, fun _ => rfl⟩ (fun _ => HS) ?_; rotate_left; (focus (rintro wS -; go_simp; try (with_reducible rfl))); (simp only [List.setIfInBounds_toArray, List.set_cons_zero, List.set_cons_succ]))
        (refine oneU (i := 19) rfl (by kernel_rfl) (fun K hK => ?_); go_simp)
        refine (callsIn_wide.2 (may_any kd (kk (i + 1)) w7)).mono ?_
        rintro e w8 ⟨rfl, hb8⟩
        dsimp only
        have HJ8 := Lib.hid (HJ.out _ _ _ HJ7.out (grown_of hb8))
        clear HS HJ7 hb8
        (refine hK _ _ ⟨(no_more (by kernel_rfl)), ?_⟩; clear hK K; (try (simp only [List.setIfInBounds_toArray, List.set_cons_zero, List.set_cons_succ])))
        generalize hcc : mayB kd (kk (i + 1)) = cc
        (refine takeP (i := 21) (d := 46) (v := ?_) rfl rfl (by kernel_rfl) (by kernel_rfl) (by kernel_rfl) (by kernel_rfl) (by kernel_rfl) (fun _ _ _ h => h) ⟨Or.inl ⟨by kernel_rfl, ?_⟩, fun _ => rfl⟩ (no_more (by kernel_rfl)) ?_; rotate_left; (focus (rintro wS -; go_simp; try (with_reducible rfl))); (simp only [List.setIfInBounds_toArray, List.set_cons_zero, List.set_cons_succ]))
        (refine takeP (i := 22) (d := 47) (v := ?_) rfl rfl (by kernel_rfl) (by kernel_rfl) (by kernel_rfl) (by kernel_rfl) (by kernel_rfl) (fun _ _ _ h => h) ⟨Or.inl ⟨by kernel_rfl, ?_⟩, fun _ => rfl⟩ (no_more (by kernel_rfl)) ?_; rotate_left; (focus (rintro wS -; go_simp; try (with_reducible rfl))); (simp only [List.setIfInBounds_toArray, List.set_cons_zero, List.set_cons_succ]))
        (refine doneU (by kernel_rfl) ?_ _)
        by_cases hq : cc = bb
        · subst hq
          have HE1 := Lib.hid (show runsF (fun i => mayB kd (kk i)) n = pre ++ runsG (fun i => mayB kd (kk i)) n (n - (i + 1)) f (i + 1) by rw [HE.out, show n - i = (n - (i + 1)) + 1 by omega, runsG, if_pos ⟨hnx, by show mayB kd (kk (i + 1)) = mayB kd (kk i); rw [hbb, hcc]⟩])
          cases cc
          all_goals
            gi_wp2
            go_roundw
            case rel => exact ⟨f, i + 1, pre, by omega, by omega, rfl, by go_num, HE1.out, ⟨HJ8.out⟩⟩
            case measure => simp [intOf]; omega
        · have hno : ¬ (i + 1 < n ∧ mayB kd (kk (i + 1)) = mayB kd (kk i)) := fun h => hq (by rw [← hcc, ← hbb]; exact h.2)
          have HSP := Lib.hid (show runsF (fun i => mayB kd (kk i)) n = pre ++ (f, i + 1, bb) :: runsG (fun i => mayB kd (kk i)) n (n - (i + 1)) (i + 1) (i + 1) by rw [HE.out, show n - i = (n - (i + 1)) + 1 by omega, runsG, if_neg hno, ← hbb])
          have HE2 := Lib.hid (show runsF (fun i => mayB kd (kk i)) n = pre ++ [(f, i + 1, bb)] ++ runsG (fun i => mayB kd (kk i)) n (n - (i + 1)) (i + 1) (i + 1) by rw [HSP.out, List.append_assoc]; rfl)
          clear hcc hno
          cases cc <;> cases bb <;> first | (exact absurd rfl hq) | skip
          all_goals
            obtain ⟨u0, u1, u2, -⟩ := HR.out _ _ HJ8.out
            have hfi : f ≤ i + 1 := by omega
            have hic : i + 1 ≤ ck := by omega
            obtain ⟨fn, tmps, assign, body, hyy, hRR⟩ := HY.out pre (f, i + 1, _) _ _ HSP.out HJ8.out
            dsimp only [runV, Option.map] at hyy
            have HJY := Lib.hid hRR
            clear hRR HJ8
            gi_wp2
            refine HJY.out.mono ?_
            rintro e W3 (⟨rfl, hJ3⟩ | ⟨rfl, hJ3⟩)
            · gi_wp2
              go_roundw
              case rel => exact ⟨i + 1, i + 1, pre ++ [(f, i + 1, _)], by omega, by omega, by go_num, by go_num, HE2.out, ⟨hJ3⟩⟩
              case measure => simp [intOf]; omega
            · gi_wp2
              refine bodyPost_ret (results_none rfl _ _ _) rfl ?_
              exact ⟨⟨_, rfl⟩, .inr ⟨pre, (f, i + 1, _), _, HSP.out, hJ3⟩⟩
      · have hda : decide ((i : Int) + 1 < (n : Int)) = false := decide_eq_false (by omega)
        have hdb : decide (i + 1 < n) = false := decide_eq_false hnx
        have hwi : IntKind.i64.wrap ((i : Int) + 1) = (i : Int) + 1 := IntWalk.i64_in _ (by omega)
        obtain ⟨z0, z1, z2, -⟩ := HR.out _ _ HJ6.out
        refine beginU (fun V : World => V.cell? ⟨b1, 1, none⟩ = some (.slice (some ak) n ck)) 5 (by kernel_rfl) ?_
        have HS : (fun V : World => V.cell? ⟨b1, 1, none⟩ = some (.slice (some ak) n ck)) w6.drew := z1
        have HJ8 := Lib.hid (HJ.out _ _ _ HJ6.out (grown_of ((Below.refl _ w6).drew)))
        clear z0 z1 z2 HJ6
        generalize w6.drew = w7 at HS HJ8 ⊢
        (refine takeP (i := 0) (d := 25) (v := ?_) rfl rfl (by kernel_rfl) (by kernel_rfl) (by kernel_rfl) (by kernel_rfl) (by kernel_rfl) (fun _ _ _ h => h) ⟨Or.inl ⟨by kernel_rfl, ?_⟩, fun _ => rfl⟩ (fun _ => HS) ?_; rotate_left; (focus (rintro wS -; go_simp; try (with_reducible rfl))); (simp only [List.setIfInBounds_toArray, List.set_cons_zero, List.set_cons_succ]))
        (refine takeP (i := 1) (d := 26) (v := ?_) rfl rfl (by kernel_rfl) (by kernel_rfl) (by kernel_rfl) (by kernel_rfl) (by kernel_rfl) (fun _ _ _ h => h) ⟨Or.inl ⟨by kernel_rfl, ?_⟩, fun _ => rfl⟩ (fun _ => HS) ?_; rotate_left; (focus (rintro wS -; go_simp; try (with_reducible rfl))); (simp only [List.setIfInBounds_toArray, List.set_cons_zero, List.set_cons_succ]))
        (refine takeP (i := 2) (d := 27) (v := ?_) rfl rfl (by kernel_rfl) (by kernel_rfl) (by kernel_rfl) (by kernel_rfl) (by kernel_rfl) (fun _ _ _ h => h) ⟨Or.inl ⟨by kernel_rfl, ?_⟩, fun _ => rfl⟩ (fun _ => HS) ?_; rotate_left; (focus (rintro wS -; go_simp; try (with_reducible rfl))); (simp only [List.setIfInBounds_toArray, List.set_cons_zero, List.set_cons_succ]))
        (refine takeV (i := 3) (d := 28) (v := ?_) [5, 4] rfl rfl (by kernel_rfl) (by kernel_rfl) (by kernel_rfl) (by kernel_rfl) (by kernel_rfl) (fun _ _ _ h => h) ⟨Or.inl ⟨by kernel_rfl, ?_⟩, fun _ => rfl⟩ HS ?_; rotate_left; (focus (rintro wS s1; go_simp; try (with_reducible rfl))); (simp only [List.setIfInBounds_toArray, List.set_cons_zero, List.set_cons_succ]))
        (refine takeP (i := 4) (d := 29) (v := ?_) rfl rfl (by kernel_rfl) (by kernel_rfl) (by kernel_rfl) (by kernel_rfl) (by kernel_rfl) (fun _ _ _ h => h) ⟨Or.inl ⟨by kernel_rfl, ?_⟩, fun _ => rfl⟩ (fun _ => HS) ?_; rotate_left; (focus (rintro wS -; go_simp; try (with_reducible rfl))); (simp only [List.setIfInBounds_toArray, List.set_cons_zero, List.set_cons_succ]))
        (refine oneU (i := 5) rfl (by kernel_rfl) (fun K hK => ?_); go_simp)
        (refine hK _ _ ⟨(no_more (by kernel_rfl)), ?_⟩; clear hK K; (try (simp only [List.setIfInBounds_toArray, List.set_cons_zero, List.set_cons_succ])))
        (refine takeP (i := 6) (d := 31) (v := ?_) rfl rfl (by kernel_rfl) (by kernel_rfl) (by kernel_rfl) (by kernel_rfl) (by kernel_rfl) (fun _ _ _ h => h) ⟨Or.inl ⟨by kernel_rfl, ?_⟩, fun _ => rfl⟩ (no_more (by kernel_rfl)) ?_; rotate_left; (focus (rintro wS -; go_simp; try (with_reducible rfl))); (simp only [List.setIfInBounds_toArray, List.set_cons_zero, List.set_cons_succ]))
        (refine takeP (i := 7) (d := 32) (v := undef) rfl rfl (by kernel_rfl) (by kernel_rfl) (by kernel_rfl) (by kernel_rfl) (by kernel_rfl) (fun _ _ _ h => h) ⟨Or.inr ⟨by kernel_rfl, rfl⟩, fun _ => rfl⟩ (no_more (by kernel_rfl)) ?_; (simp only [List.setIfInBounds_toArray, List.set_cons_zero, List.set_cons_succ]))
        (refine takeP (i := 8) (d := 33) (v := undef) rfl rfl (by kernel_rfl) (by kernel_rfl) (by kernel_rfl) (by kernel_rfl) (by kernel_rfl) (fun _ _ _ h => h) ⟨Or.inr ⟨by kernel_rfl, rfl⟩, fun _ => rfl⟩ (no_more (by kernel_rfl)) ?_; (simp only [List.setIfInBounds_toArray, List.set_cons_zero, List.set_cons_succ]))
        (refine takeP (i := 9) (d := 34) (v := undef) rfl rfl (by kernel_rfl) (by kernel_rfl) (by kernel_rfl) (by kernel_rfl) (by kernel_rfl) (fun _ _ _ h => h) ⟨Or.inr ⟨by kernel_rfl, rfl⟩, fun _ => rfl⟩ (no_more (by kernel_rfl)) ?_; (simp only [List.setIfInBounds_toArray, List.set_cons_zero, List.set_cons_succ]))
        (refine takeP (i := 10) (d := 35) (v := undef) rfl rfl (by kernel_rfl) (by kernel_rfl) (by kernel_rfl) (by kernel_rfl) (by kernel_rfl) (fun _ _ _ h => h) ⟨Or.inr ⟨by kernel_rfl, rfl⟩, fun _ => rfl⟩ (no_more (by kernel_rfl)) ?_; (simp only [List.setIfInBounds_toArray, List.set_cons_zero, List.set_cons_succ]))
        (refine takeP (i := 11) (d := 36) (v := undef) rfl rfl (by kernel_rfl) (by kernel_rfl) (by kernel_rfl) (by kernel_rfl) (by kernel_rfl) (fun _ _ _ h => h) ⟨Or.inr ⟨by kernel_rfl, rfl⟩, fun _ => rfl⟩ (no_more (by kernel_rfl)) ?_; (simp only [List.setIfInBounds_toArray, List.set_cons_zero, List.set_cons_succ]))
        (refine takeP (i := 12) (d := 37) (v := undef) rfl rfl (by kernel_rfl) (by kernel_rfl) (by kernel_rfl) (by kernel_rfl) (by kernel_rfl) (fun _ _ _ h => h) ⟨Or.inr ⟨by kernel_rfl, rfl⟩, fun _ => rfl⟩ (no_more (by kernel_rfl)) ?_; (simp only [List.setIfInBounds_toArray, List.set_cons_zero, List.set_cons_succ]))
        (refine takeP (i := 13) (d := 38) (v := undef) rfl rfl (by kernel_rfl) (by kernel_rfl) (by kernel_rfl) (by kernel_rfl) (by kernel_rfl) (fun _ _ _ h => h) ⟨Or.inr ⟨by kernel_rfl, rfl⟩, fun _ => rfl⟩ (no_more (by kernel_rfl)) ?_; (simp only [List.setIfInBounds_toArray, List.set_cons_zero, List.set_cons_succ]))
        (refine takeP (i := 14) (d := 39) (v := undef) rfl rfl (by kernel_rfl) (by kernel_rfl) (by kernel_rfl) (by kernel_rfl) (by kernel_rfl) (fun _ _ _ h => h) ⟨Or.inr ⟨by kernel_rfl, rfl⟩, fun _ => rfl⟩ (no_more (by kernel_rfl)) ?_; (simp only [List.setIfInBounds_toArray, List.set_cons_zero, List.set_cons_succ]))
        (refine takeP (i := 15) (d := 40) (v := undef) rfl rfl (by kernel_rfl) (by kernel_rfl) (by kernel_rfl) (by kernel_rfl) (by kernel_rfl) (fun _ _ _ h => h) ⟨Or.inr ⟨by kernel_rfl, rfl⟩, fun _ => rfl⟩ (no_more (by kernel_rfl)) ?_; (simp only [List.setIfInBounds_toArray, List.set_cons_zero, List.set_cons_succ]))
        (refine takeP (i := 16) (d := 41) (v := undef) rfl rfl (by kernel_rfl) (by kernel_rfl) (by kernel_rfl) (by kernel_rfl) (by kernel_rfl) (fun _ _ _ h => h) ⟨Or.inr ⟨by kernel_rfl, rfl⟩, fun _ => rfl⟩ (no_more (by kernel_rfl)) ?_; (simp only [List.setIfInBounds_toArray, List.set_cons_zero, List.set_cons_succ]))
        (refine takeP (i := 17) (d := 42) (v := undef) rfl rfl (by kernel_rfl) (by kernel_rfl) (by kernel_rfl) (by kernel_rfl) (by kernel_rfl) (fun _ _ _ h => h) ⟨Or.inr ⟨by kernel_rfl, rfl⟩, fun _ => rfl⟩ (no_more (by kernel_rfl)) ?_; (simp only [List.setIfInBounds_toArray, List.set_cons_zero, List.set_cons_succ]))
        (refine takeP (i := 18) (d := 43) (v := undef) rfl rfl (by kernel_rfl) (by kernel_rfl) (by kernel_rfl) (by kernel_rfl) (by kernel_rfl) (fun _ _ _ h => h) ⟨Or.inr ⟨by kernel_rfl, rfl⟩, fun _ => rfl⟩ (no_more (by kernel_rfl)) ?_; (simp only [List.setIfInBounds_toArray, List.set_cons_zero, List.set_cons_succ]))
        (refine takeP (i := 20) (d := 45) (v := undef) rfl rfl (by kernel_rfl) (by kernel_rfl) (by kernel_rfl) (by kernel_rfl) (by kernel_rfl) (fun _ _ _ h => h) ⟨Or.inr ⟨by kernel_rfl, rfl⟩, fun _ => rfl⟩ (no_more (by kernel_rfl)) ?_; (simp only [List.setIfInBounds_toArray, List.set_cons_zero, List.set_cons_succ]))
        (refine oneU (i := 19) rfl (by kernel_rfl) (fun K hK => ?_); go_simp)
        (try (refine ⟨fun _ _ => trivial, ?_⟩))
        (refine hK _ _ ⟨(no_more (by kernel_rfl)), ?_⟩; clear hK K; (try (simp only [List.setIfInBounds_toArray, List.set_cons_zero, List.set_cons_succ])))
        (refine takeP (i := 21) (d := 46) (v := undef) rfl rfl (by kernel_rfl) (by kernel_rfl) (by kernel_rfl) (by kernel_rfl) (by kernel_rfl) (fun _ _ _ h => h) ⟨Or.inr ⟨by kernel_rfl, rfl⟩, fun _ => rfl⟩ (no_more (by kernel_rfl)) ?_; (simp only [List.setIfInBounds_toArray, List.set_cons_zero, List.set_cons_succ]))
        (refine takeP (i := 22) (d := 47) (v := ?_) rfl rfl (by kernel_rfl) (by kernel_rfl) (by kernel_rfl) (by kernel_rfl) (by kernel_rfl) (fun _ _ _ h => h) ⟨Or.inl ⟨by kernel_rfl, ?_⟩, fun _ => rfl⟩ (no_more (by kernel_rfl)) ?_; rotate_left; (focus (rintro wS -; go_simp; try (with_reducible rfl))); (simp only [List.setIfInBounds_toArray, List.set_cons_zero, List.set_cons_succ]))
        (refine doneU (by kernel_rfl) ?_ _)
        have hno : ¬ (i + 1 < n ∧ mayB kd (kk (i + 1)) = mayB kd (kk i)) := fun h => hnx h.1
        have HSP := Lib.hid (show runsF (fun i => mayB kd (kk i)) n = pre ++ (f, i + 1, bb) :: runsG (fun i => mayB kd (kk i)) n (n - (i + 1)) (i + 1) (i + 1) by rw [HE.out, show n - i = (n - (i + 1)) + 1 by omega, runsG, if_neg hno, ← hbb])
        have HE2 := Lib.hid (show runsF (fun i => mayB kd (kk i)) n = pre ++ [(f, i + 1, bb)] ++ runsG (fun i => mayB kd (kk i)) n (n - (i + 1)) (i + 1) (i + 1) by rw [HSP.out, List.append_assoc]; rfl)
        obtain ⟨u0, u1, u2, -⟩ := HR.out _ _ HJ8.out
        have hfi : f ≤ i + 1 := by omega
        have hic : i + 1 ≤ ck := by omega
        obtain ⟨fn, tmps, assign, body, hyy, hRR⟩ := HY.out pre (f, i + 1, _) _ _ HSP.out HJ8.out
        dsimp only [runV, Option.map] at hyy
        have HJY := Lib.hid hRR
        clear hRR HJ8
        gi_wp2
        refine HJY.out.mono ?_
        rintro e W3 (⟨rfl, hJ3⟩ | ⟨rfl, hJ3⟩)
        · gi_wp2
          go_roundw
          case rel => exact ⟨i + 1, i + 1, pre ++ [(f, i + 1, _)], by omega, by omega, by go_num, by go_num, HE2.out, ⟨hJ3⟩⟩
          case measure => simp [intOf]; omega
        · gi_wp2
          refine bodyPost_ret (results_none rfl _ _ _) rfl ?_
          exact ⟨⟨_, rfl⟩, .inr ⟨pre, (f, i + 1, _), _, HSP.out, hJ3⟩⟩
    · have hie : i = n := by omega
      subst hie
      have hdlt : decide (i < i) = false := decide_eq_false (by omega)
      have HE' := HE.out
      rw [Nat.sub_self, runsG_last, List.append_nil] at HE'
      have HJn : Aside0 (J (runsF (fun i => mayB kd (kk i)) i) wr) := ⟨by rw [HE']; exact HJi.out⟩
      clear HE' HE HJi
      gi_wp2
      refine bodyPost_end (results_none rfl _ _ _) rfl ?_
      exact ⟨⟨_, rfl⟩, .inl HJn.out⟩
end Go.Proofs.Ytjhpkikgajgdmaa.K
namespace Go.Proofs.Ytjhpkikgajgdmaa.K
open Go.RowKit Go.Proofs.YtjhpkikgajgdmaaW.PrintWords Go.Proofs.YtjhpkikgajgdmaaW.PrintLast Go.Proofs.YtjhpkikgajgdmaaW.PrintMore
set_option linter.unusedVariables false
set_option linter.unusedSimpArgs false
attribute [local go_sem] Oper.semAt_some

theorem runs_any (A : Option Addr) (n c : Nat) (cs : List Value) (w : World) :
    Calls Try.prog 28 #[.slice A n c, .agg cs.toArray] w fun e w' => e = .returned (.func (.func 42) #[] #[.pointer (some ⟨w.heap.size + 1, 0, none⟩), .pointer (some ⟨w.heap.size, 0, none⟩)]) ∧ w' = (w.alloc (.cells #[.slice A n c] 25)).alloc (.cells cs.toArray 43) := by
  go_enter Try.func28, Try.ntmps28
  go_wp2
  go_ret
  exact ⟨rfl, rfl⟩
end Go.Proofs.Ytjhpkikgajgdmaa.K
