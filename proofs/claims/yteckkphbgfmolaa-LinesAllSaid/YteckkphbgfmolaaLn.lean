/- Layer 8: areLengths, fixed.Add. -/
import Derived.Test.YteckkphbgfmolaaIxI
import Derived.Test.YteckkphbgfmolaaK2
import Derived.Laws.Rows
import Derived.Shelf.Abstract
import Derived.Test.YteckkphbgfmolaaRange
import Derived.ScopeJumps
import Derived.WalkMore
import Derived.Handy
namespace Go.Proofs.Yteckkphbgfmolaa.K
open Go.RowKit Go.Proofs.YteckkphbgfmolaaW.PrintWords Go.Proofs.YteckkphbgfmolaaW.PrintLast Go.Proofs.YteckkphbgfmolaaW.PrintMore
set_option linter.unusedVariables false
set_option linter.unusedSimpArgs false

def lengthB (n : Int) : Bool := decide (0 ≤ n ∧ n ≤ 1073741824)
theorem clamp_px (n : Int) (w : World) : Calls Try.prog 37 #[.int .i64 n, .int .i64 0, .int .i64 1073741824] w fun e w' => e = .returned (.int .i64 (max (min n 1073741824) 0)) ∧ w = w' := by
  by_cases h0 : n < 0
  · rw [show max (min n 1073741824) 0 = 0 by omega]
    go_enter Try.func37, Try.ntmps37
    go_wp2
    go_ret
    first | exact ⟨rfl, rfl⟩ | (refine ⟨?_, rfl⟩; congr 2; (repeat' split) <;> omega)
  · by_cases h1 : n ≤ 1073741824
    · rw [show max (min n 1073741824) 0 = n by omega]
      go_enter Try.func37, Try.ntmps37
      go_wp2
      go_ret
      first | exact ⟨rfl, rfl⟩ | (refine ⟨?_, rfl⟩; show Ending.returned (.int .i64 _) = _; congr 2; (repeat' split) <;> omega)
    · rw [show max (min n 1073741824) 0 = 1073741824 by omega]
      go_enter Try.func37, Try.ntmps37
      go_wp2
      go_ret
      first | exact ⟨rfl, rfl⟩ | (refine ⟨?_, rfl⟩; show Ending.returned (.int .i64 _) = _; congr 2; (repeat' split) <;> omega)
theorem isLength_any (n : Int) (w : World) : Calls Try.prog 36 #[.int .i64 n] w fun e w' => e = .returned (.bool (!lengthB n)) ∧ w = w' := by
  have hq : (n != max (min n 1073741824) 0) = !lengthB n := by
    unfold lengthB
    by_cases h : 0 ≤ n ∧ n ≤ 1073741824
    · rw [decide_eq_true h, show max (min n 1073741824) 0 = n by omega]; simp
    · rw [decide_eq_false h]; simp; omega
  have HQ := Lib.hid hq
  clear hq
  obtain ⟨m, hm⟩ : ∃ m, m = max (min n 1073741824) 0 := ⟨_, rfl⟩
  have HC := Lib.hid fun W => clamp_px n W
  rw [← hm] at HQ HC
  clear hm
  go_enter Try.func36, Try.ntmps36
  go_wp2_with (go_at_call 37; refine (HC.out _).mono ?_; rintro e w' ⟨rfl, rfl⟩)
  go_ret
  exact ⟨(show Ending.returned (.bool (n != m)) = _ by rw [HQ.out]), rfl⟩
theorem areLengths_any (A : Option Addr) (c : Nat) (l : List Int) (w : World) (hr : Kd.C (Kd.int .i64) w A l.length l) (hc : l.length ≤ c) :
    Calls Try.prog 28 #[.slice A l.length c] w fun e w' => e = .returned (.bool (l.all lengthB)) ∧ Below w.heap.size w w' := by
  have HW := Lib.hid (contains_i64 36 #[] (fun n => !lengthB n) (enters_of Try.func36 (by kernel_rfl) rfl) A c l w
      (fun W2 x cs hb _ hK _ => by
        have hK' : cs = [.int .i64 x] := hK
        subst hK'
        exact (isLength_any x W2).mono fun _ _ ⟨he, hw⟩ => ⟨he, hw ▸ Below.refl _ _⟩) hr hc)
  have hq : (!l.any fun n => !lengthB n) = l.all lengthB := by
    rw [List.not_any_eq_all_not]
    congr 1
    funext n; simp
  have HQ := Lib.hid hq
  clear hr hq
  go_enter Try.func28, Try.ntmps28
  go_wp2_with (go_at_call 35; refine HW.out.mono ?_; rintro e w' ⟨rfl, hb⟩)
  go_ret
  exact ⟨(show Ending.returned (.bool (!l.any fun n => !lengthB n)) = _ by rw [HQ.out]), hb⟩
def lines_areLengths.f (l0 : List Int) : Option (Bool) := some (l0.all lengthB)
theorem lines_areLengths.calls (A0 : Option Addr) (c0 : Nat) (l0 : List Int) (r : Bool) (w : World) (hr0 : Kd.C (Kd.int .i64) w A0 l0.length l0) (hc0 : l0.length ≤ c0) (h : lines_areLengths.f l0 = some r) :
    Calls Try.prog 28 #[.slice A0 l0.length c0] w fun e w' => e = .returned (.bool r) ∧ Below w.heap.size w w' := by
  obtain rfl := Option.some.inj h
  exact areLengths_any A0 c0 l0 w hr0 hc0

def I64 (n : Int) : Prop := -9223372036854775808 ≤ n ∧ n ≤ 9223372036854775807
instance (n : Int) : Decidable (I64 n) := by unfold I64; exact inferInstance
def satAdd (a b : Int) : Int := if 9223372036854775807 < a + b then 9223372036854775807 else if a + b < -9223372036854775808 then -9223372036854775808 else a + b
theorem satAdd_i64 (a b : Int) : I64 (satAdd a b) := by unfold satAdd I64; split <;> (try split) <;> omega
theorem edge_any (b : Bool) (w : World) : Calls Try.prog 34 #[.bool b] w fun e w' => e = .returned (.int .i64 (if b then -9223372036854775808 else 9223372036854775807)) ∧ w = w' := by
  cases b
  all_goals
    go_enter Try.func34, Try.ntmps34
    go_wp2
    go_ret
    exact ⟨rfl, rfl⟩

set_option maxHeartbeats 1000000 in
theorem add_any (A : Option Addr) (cap : Nat) (zs : List Int) (w : World) (hr : Kd.C (Kd.int .i64) w A zs.length zs) (hz : ∀ x ∈ zs, I64 x) :
    Calls Try.prog 29 #[.slice A zs.length cap] w fun e w' => e = .returned (.int .i64 (zs.foldl satAdd 0)) ∧ w = w' := by
  have hbig := hr.2.1
  obtain ⟨n, hn⟩ : ∃ n, n = zs.length := ⟨_, rfl⟩
  rw [← hn] at hbig ⊢
  have HN := Lib.hid hn.symm
  have HZ := Lib.hid hz
  have HR := Lib.hid hr
  clear hn hz hr
  go_enter Try.func29, Try.ntmps29
  go_wp2
  refine wp_scope_jumps2 0 (fun a' w' => w = w' ∧ ∃ (k : Nat) (pre rest : List Int) (s : Int), zs = pre ++ rest ∧ pre.length = k ∧ I64 s ∧ zs.foldl satAdd 0 = rest.foldl satAdd s ∧
      ∃ (u5 u6 u7 u8 u9 u10 u11 u12 u13 u14 u15 u16 u17 u18 u19 u20 u21 u22 u23 u24 u25 u26 u27 u28 u29 u30 u31 u32 u33 u34 u35 u36 u37 u38 u39 u40 u41 : Value), a' = { tmps := #[.slice A n cap, undef, .int .i64 0, .int .i64 s, .int .i64 k, u5, u6, u7, u8, u9, u10, u11, u12, u13, u14, u15, u16, u17, u18, u19, u20, u21, u22, u23, u24, u25, u26, u27, u28, u29, u30, u31, u32, u33, u34, u35, u36, u37, u38, u39, u40, u41], defers := [] })
    (fun a' _ => n - (match a'.tmps.getD 4 undef with | .int _ x => x | _ => 0).toNat) rfl ?_ ?_
  · rintro a' w' ⟨rfl, k, pre, rest, s, hx, hk, hs, hf, u5, u6, u7, u8, u9, u10, u11, u12, u13, u14, u15, u16, u17, u18, u19, u20, u21, u22, u23, u24, u25, u26, u27, u28, u29, u30, u31, u32, u33, u34, u35, u36, u37, u38, u39, u40, u41, rfl⟩
    cases rest with
    | nil =>
      have hge : k = n := by have := HN.out; rw [hx] at this; simp at this; omega
      subst hge
      have HF := Lib.hid hf
      clear hf hk hx
      go_wp2
      simp only [Exit.jump]
      go_ret
      exact ⟨by rw [HF.out]; rfl, rfl⟩
    | cons x rest =>
      have hlt : k < n := by have := HN.out; rw [hx] at this; simp at this; omega
      obtain ⟨ad, hA, hcells⟩ := HR.out.2.2 (by have := HN.out; omega)
      obtain ⟨cs, hcl, hK, hcell0⟩ := hcells k x (by rw [hx, ← hk]; simp)
      obtain rfl : cs = [.int .i64 x] := hK
      have hcell : w.cell? (ad.add (k * 1)) = some (.int .i64 x) := hcell0 0 _ rfl
      rw [Nat.mul_one] at hcell
      subst hA
      have hne : ((k : Int) == (n : Int)) = false := by simp; omega
      have hltz : (k : Int) < (n : Int) := by omega
      have hx64 : I64 x := HZ.out x (by rw [hx]; simp)
      have HF := Lib.hid hf
      have HX := Lib.hid hx
      have HK := Lib.hid hk
      have HS := Lib.hid hs
      have HX64 := Lib.hid hx64
      clear hf hk hcells hcell0 hcl hx hs hx64
      go_wp2_with (go_at_call 34; refine (edge_any _ _).mono ?_; rintro e w' ⟨rfl, rfl⟩)
      all_goals go_step3
      all_goals have hs := HS.out
      all_goals have hx64 := HX64.out
      all_goals unfold I64 at hs hx64
      · have h1 : s < wrap64 (s + x) ↔ 0 < x := by assumption
        have e : satAdd s x = wrap64 (s + x) := by unfold satAdd; (try unfold wrap64 at *); split <;> (try split) <;> omega
        exact ⟨rfl, ⟨rfl, k + 1, pre ++ [x], rest, _, by rw [HX.out]; simp, by simp [HK.out], by rw [← e]; exact satAdd_i64 _ _, by rw [HF.out, ← e]; rfl, _, _, _, _, _, _, _, _, _, _, _, _, _, _, _, _, _, _, _, _, _, _, _, _, _, _, _, _, _, _, _, _, _, _, _, _, _, rfl⟩, by simp; omega⟩
      · have h1 : ¬ (s < wrap64 (s + x) ↔ 0 < x) := by assumption
        have h2 : x < 0 := by assumption
        have e : satAdd s x = -9223372036854775808 := by unfold satAdd; (try unfold wrap64 at *); split <;> (try split) <;> omega
        exact ⟨rfl, ⟨rfl, k + 1, pre ++ [x], rest, _, by rw [HX.out]; simp, by simp [HK.out], by rw [← e]; exact satAdd_i64 _ _, by rw [HF.out, ← e]; rfl, _, _, _, _, _, _, _, _, _, _, _, _, _, _, _, _, _, _, _, _, _, _, _, _, _, _, _, _, _, _, _, _, _, _, _, _, _, rfl⟩, by simp; omega⟩
      · have h1 : ¬ (s < wrap64 (s + x) ↔ 0 < x) := by assumption
        have h2 : 0 ≤ x := by assumption
        have h3 : (x != 0) = true := (by assumption : (!decide (s < wrap64 (s + x)) == decide (0 < x)) = true ∧ (x != 0) = true).2
        simp at h3
        have e : satAdd s x = 9223372036854775807 := by unfold satAdd; (try unfold wrap64 at *); split <;> (try split) <;> omega
        exact ⟨rfl, ⟨rfl, k + 1, pre ++ [x], rest, _, by rw [HX.out]; simp, by simp [HK.out], by rw [← e]; exact satAdd_i64 _ _, by rw [HF.out, ← e]; rfl, _, _, _, _, _, _, _, _, _, _, _, _, _, _, _, _, _, _, _, _, _, _, _, _, _, _, _, _, _, _, _, _, _, _, _, _, _, rfl⟩, by simp; omega⟩
      · have h1 : ¬ (s < wrap64 (s + x) ↔ 0 < x) := by assumption
        have h2 : (!decide (s < wrap64 (s + x)) == decide (0 < x)) = false ∨ (x != 0) = false := by assumption
        have h3 : x = 0 := by
          rcases h2 with h2 | h2
          · exact absurd (by simp at h2; simpa using h2) h1
          · simpa using h2
        have e : satAdd s x = wrap64 (s + x) := by unfold satAdd; (try unfold wrap64 at *); split <;> (try split) <;> omega
        exact ⟨rfl, ⟨rfl, k + 1, pre ++ [x], rest, _, by rw [HX.out]; simp, by simp [HK.out], by rw [← e]; exact satAdd_i64 _ _, by rw [HF.out, ← e]; rfl, _, _, _, _, _, _, _, _, _, _, _, _, _, _, _, _, _, _, _, _, _, _, _, _, _, _, _, _, _, _, _, _, _, _, _, _, _, rfl⟩, by simp; omega⟩
  · intro pass
    go_wp2
    go_step3
    rename_i hK
    exact hK _ _ (pass _ _ ⟨rfl, 0, [], zs, 0, rfl, rfl, by unfold I64; omega, rfl, _, _, _, _, _, _, _, _, _, _, _, _, _, _, _, _, _, _, _, _, _, _, _, _, _, _, _, _, _, _, _, _, _, _, _, _, _, rfl⟩)
def fixed_Add.f (l0 : List Int) : Option (Int) := if l0.all (fun x => decide (I64 x)) then some (l0.foldl satAdd 0) else none
theorem fixed_Add.calls (A0 : Option Addr) (c0 : Nat) (l0 : List Int) (r : Int) (w : World) (hr0 : Kd.C (Kd.int .i64) w A0 l0.length l0) (hc0 : l0.length ≤ c0) (h : fixed_Add.f l0 = some r) :
    Calls Try.prog 29 #[.slice A0 l0.length c0] w fun e w' => e = .returned (.int .i64 r) ∧ Drawn0 w w' := by
  unfold fixed_Add.f at h
  split at h
  · rename_i hz
    obtain rfl := Option.some.inj h
    refine (add_any A0 c0 l0 w hr0 (fun x hx => by simpa using List.all_eq_true.1 hz x hx)).mono ?_
    rintro e w' ⟨rfl, rfl⟩
    exact ⟨rfl, Drawn0.refl _⟩
  · cases h
end Go.Proofs.Yteckkphbgfmolaa.K
