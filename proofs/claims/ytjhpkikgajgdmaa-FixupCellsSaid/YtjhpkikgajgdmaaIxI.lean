/- slices.IndexFunc and slices.ContainsFunc at the layers' own types, at whatever predicate. -/
import Derived.Test.YtjhpkikgajgdmaaK0
import Derived.WalkKit
import Derived.LoopTactic
import Derived.Deep.LoopGhost
import Derived.Lib.Hide
import Derived.Handy
namespace Go.Proofs.Ytjhpkikgajgdmaa.K
open Go.RowKit Go.Proofs.YtjhpkikgajgdmaaW.PrintWords Go.Proofs.YtjhpkikgajgdmaaW.PrintLast Go.Proofs.YtjhpkikgajgdmaaW.PrintMore
set_option linter.unusedVariables false
set_option linter.unusedSimpArgs false

/-- the first place at which p holds; -1 if there is none -/
def firstOf {α : Type} (p : α → Bool) (xs : List α) : Int := match xs.findIdx? p with | some i => i | none => -1
theorem firstOf_hit {α : Type} (p : α → Bool) (xs : List α) (kk : Nat) (y : α) (hy : xs[kk]? = some y) (h : p y = true) (A : ∀ j z, j < kk → xs[j]? = some z → p z = false) : firstOf p xs = kk := by
  have hl := (List.getElem?_eq_some_iff.1 hy).1
  have : xs.findIdx? p = some kk := by
    rw [List.findIdx?_eq_some_iff_getElem]
    refine ⟨hl, ?_, fun j hj => ?_⟩
    · rw [(List.getElem?_eq_some_iff.1 hy).2]; exact h
    · have := A j _ hj (List.getElem?_eq_getElem (by omega)); simp [this]
  simp [firstOf, this]
theorem firstOf_miss {α : Type} (p : α → Bool) (xs : List α) (A : ∀ (j : Nat) (z : α), xs[j]? = some z → p z = false) : firstOf p xs = -1 := by
  have : xs.findIdx? p = none := by
    rw [List.findIdx?_eq_none_iff]
    intro x hx
    obtain ⟨j, hj⟩ := List.getElem?_of_mem hx
    exact A j x hj
  simp [firstOf, this]
theorem any_firstOf {α : Type} (p : α → Bool) (xs : List α) : xs.any p = decide (firstOf p xs ≥ 0) := by
  unfold firstOf
  cases h : xs.findIdx? p with
  | none =>
    rw [List.findIdx?_eq_none_iff] at h
    simp only [show ((-1 : Int) ≥ 0) = False by simp, decide_false]
    rw [Bool.eq_false_iff]
    intro hh
    obtain ⟨x, hx, hp⟩ := List.any_eq_true.1 hh
    rw [h x hx] at hp; cases hp
  | some i =>
    obtain ⟨hl, hp, -⟩ := List.findIdx?_eq_some_iff_getElem.1 h
    have : xs.any p = true := List.any_eq_true.2 ⟨_, List.getElem_mem hl, hp⟩
    rw [this]
    have : ((i : Int) ≥ 0) := by omega
    simp [this]

theorem first_i64_hit (p : Int → Bool) (xs : List (Int)) (kk : Nat) (y : Int) (hy : xs[kk]? = some y) (h : p y = true) (A : ∀ j z, j < kk → xs[j]? = some z → p z = false) : firstOf p xs = kk := firstOf_hit p xs kk y hy h A
set_option maxHeartbeats 2000000 in
theorem index_i64 (g : Nat) (lb : Array Value) (p : Int → Bool) (eg : ∀ args w, (callFunc g args).run Try.prog w = .ok (.enter g args) w) (A : Option Addr) (c : Nat) (xs : List (Int)) (w : World)
    (hp : ∀ (W : World) (x : Int) (cs : List Value), Below w.heap.size w W → x ∈ xs → (Kd.int .i64).K w x cs → (Kd.int .i64).K W x cs → Calls Try.prog g (#[(cs.getD 0 undef)] ++ lb) W fun e w' => e = .returned (.bool (p x)) ∧ Below W.heap.size W w')
    (hr : Kd.C (Kd.int .i64) w A xs.length xs) (hc : xs.length ≤ c) :
    Calls Try.prog 66 #[.slice A xs.length c, .func (.func g) #[] lb] w fun e w' => e = .returned (.int .i64 (firstOf p xs)) ∧ Below w.heap.size w w' := by
  have hbig := hr.2.1
  have HR := Lib.hid hr
  have HP := Lib.hid hp
  have HC := Lib.hid hc
  clear hp hr hc
  go_enter Try.func66, Try.ntmps66
  go_wp2
  go_loopg [5, 8] xs.length (fun gg _ s8 wr => ∃ kk : Nat, kk ≤ xs.length ∧ xs.length - kk ≤ gg ∧ s8 = .int .i64 kk ∧ Aside0 (Below w.heap.size w wr) ∧ Aside0 (∀ j z, j < kk → xs[j]? = some z → p z = false))
  case atStart => exact ⟨0, Nat.zero_le _, by omega, rfl, ⟨Below.refl _ w⟩, ⟨fun j z hj => absurd hj (Nat.not_lt_zero _)⟩⟩
  case round =>
    obtain ⟨kk, hkk, hg, rfl, BW, AA⟩ := hrel
    by_cases hlt : kk < xs.length
    · have hltz : (kk : Int) < (xs.length : Int) := by omega
      obtain ⟨y, hy⟩ : ∃ y, xs[kk]? = some y := ⟨_, List.getElem?_eq_getElem hlt⟩
      obtain ⟨ad, hA, hcells⟩ := HR.out.2.2 (by omega)
      obtain ⟨cs, hcl, hK, hcell⟩ := hcells kk y hy
      have hcall0 := HP.out wr y cs BW.out (List.mem_of_getElem? hy) hK ((Kd.int .i64).K_below BW.out hK)
      subst hA
      have HY := Lib.hid hy
      clear hy hcells
      obtain ⟨q0, rfl⟩ : ∃ q0, cs = [q0] := by
        match cs, hcl with
        | [q0], _ => exact ⟨q0, rfl⟩
      have hx0 : wr.cell? (ad.add kk) = some q0 := by
        have h0 := (BW.out.cell (World.block_lt_of_cell? w _ (hcell 0 _ rfl))).trans (hcell 0 _ rfl)
        rwa [show kk * (Kd.int .i64).sz + 0 = kk from Nat.mul_one kk] at h0
      have hcall : Calls Try.prog g (#[q0] ++ lb) wr (fun e w' => e = .returned (.bool (p y)) ∧ Below wr.heap.size wr w') := hcall0
      clear hcall0
      clear hcell hK hcl
      cases hq : p y with
      | true =>
        rw [hq] at hcall
        have HQ := Lib.hid hq
        clear hq
        go_wp2_with (fail)
        refine hcall.mono ?_
        rintro e w' ⟨rfl, hb'⟩
        go_wp2_with (fail)
        go_ret
        refine ⟨?_, BW.out.trans (hb'.mono BW.out.size)⟩
        rw [firstOf_hit p xs kk y HY.out HQ.out AA.out]
        rfl
      | false =>
        rw [hq] at hcall
        have HQ := Lib.hid hq
        clear hq
        go_wp2_with (fail)
        refine hcall.mono ?_
        rintro e w' ⟨rfl, hb'⟩
        go_wp2_with (fail)
        go_roundg (xs.length - (kk + 1))
        case measure => omega
        case rel =>
          refine ⟨kk + 1, by omega, by omega, by go_num, ⟨BW.out.trans (hb'.mono BW.out.size)⟩, ⟨fun j z hj hz => ?_⟩⟩
          by_cases e : j = kk
          · subst e
            rw [HY.out] at hz; cases hz; exact HQ.out
          · exact AA.out j z (by omega) hz
    · have hltz : ¬ (kk : Int) < (xs.length : Int) := by omega
      have : kk = xs.length := by omega
      subst this
      go_wp2
      go_ret
      refine ⟨?_, BW.out⟩
      rw [firstOf_miss p xs (fun j z hz => AA.out j z (List.getElem?_eq_some_iff.1 hz).1 hz)]
      rfl

theorem contains_i64 (g : Nat) (lb : Array Value) (p : Int → Bool) (eg : ∀ args w, (callFunc g args).run Try.prog w = .ok (.enter g args) w) (A : Option Addr) (c : Nat) (xs : List (Int)) (w : World)
    (hp : ∀ (W : World) (x : Int) (cs : List Value), Below w.heap.size w W → x ∈ xs → (Kd.int .i64).K w x cs → (Kd.int .i64).K W x cs → Calls Try.prog g (#[(cs.getD 0 undef)] ++ lb) W fun e w' => e = .returned (.bool (p x)) ∧ Below W.heap.size W w')
    (hr : Kd.C (Kd.int .i64) w A xs.length xs) (hc : xs.length ≤ c) :
    Calls Try.prog 64 #[.slice A xs.length c, .func (.func g) #[] lb] w fun e w' => e = .returned (.bool (xs.any p)) ∧ Below w.heap.size w w' := by
  have HI := Lib.hid (index_i64 g lb p eg A c xs w hp hr hc)
  have hx := any_firstOf p xs
  have HX := Lib.hid hx
  clear hp hr hc hx
  go_enter Try.func64, Try.ntmps64
  go_wp2_with (go_at_call 66; refine HI.out.mono ?_; rintro e w' ⟨rfl, hb'⟩)
  go_ret
  refine ⟨?_, hb'⟩
  rw [HX.out]
  rfl
end Go.Proofs.Ytjhpkikgajgdmaa.K
