-- PRINTED by print.py (a twelfth state) out of the translation. Not trusted: Lean checks it.
import Derived.Test.YtjhpkikgajgdmaaProg
import Derived.Below
import Derived.Deep.Draws
import Derived.Deep.AppendLies
import Derived.Maps.AppendAt
import Derived.OwnWalk
import Derived.Laws.BytesArg
import Derived.Laws.MakeOwn
import Derived.Laws.OwnMore
import Derived.Deep.OwnRows
import Derived.Tactics
import Derived.Lib.ConvBytes
import Derived.Laws.Slices
import Derived.WalkKit
import Derived.KernelRfl
import Derived.RowKit3
import Derived.Deep.LoopGhost
import Derived.Deep.QuietTactic
import Derived.BigQuiet
import Derived.WideLaws
import Derived.Deep.DeepCutAuto
import Derived.Deep.CutBlock
import Derived.Deep.RegionHeld3
import Derived.Laws.Rows
import Derived.Lib.AppendStr
import Derived.ArgAppend
import Derived.Laws.IdiomCopy
import Derived.OrdersHeld
import Derived.Laws.BitsLemmas
import Derived.RowKit
import Derived.Test.YtjhpkikgajgdmaaWd2
namespace Go.Proofs.Ytjhpkikgajgdmaa.K
open Go.RowKit Go.Proofs.YtjhpkikgajgdmaaW.PrintWords Go.Proofs.YtjhpkikgajgdmaaW.PrintLast Go.Proofs.YtjhpkikgajgdmaaW.PrintMore
attribute [local go_sem] max2_int min2_int max_two min_two max_three min_three max_four min_four   -- for this text's walks alone
set_option linter.unusedVariables false
set_option linter.unusedSimpArgs false



def errW : Option Int → Value
  | none => .nilIface
  | some c => .iface 0 (.int .i64 c)
theorem errW_none : errW none = .nilIface := rfl
theorem errW_some (c : Int) : errW (some c) = .iface 0 (.int .i64 c) := rfl

theorem info2 : (Try.prog.info? 2).map (fun i => (i.zero, i.size, i.bytes)) = some (some (.int .i64 0), 1, 8) := by kernel_rfl
theorem info3 : (Try.prog.info? 3).map (fun i => (i.zero, i.size, i.bytes)) = some (some (.int .i64 0), 1, 8) := by kernel_rfl
theorem info4 : (Try.prog.info? 4).map (fun i => (i.zero, i.size, i.bytes)) = some (some (.bool false), 1, 1) := by kernel_rfl
theorem info43 : (Try.prog.info? 43).map (fun i => (i.zero, i.size, i.bytes)) = some (some (.agg #[(.int .i64 0), (.slice none 0 0), (.int .i64 0), (.int .i64 0), (.int .i64 0), (.int .i64 0), (.int .i64 0), (.int .i64 0), (.int .i64 0), (.int .i64 0), (.int .i64 0), (.int .i64 0), (.int .u32 0), (.int .i64 0), (.int .i64 0), (.int .u32 0), (.int .i64 0), (.int .i64 0), (.int .u32 0), (.int .i64 0), (.int .i64 0), (.int .u32 0), (.int .i64 0), (.int .i64 0), (.int .i64 0), (.bool false), (.bool false), (.int .i64 0), (.int .i64 0), (.bool false), (.bool false), (.slice none 0 0), (.int .i64 0), (.int .i64 0)]), 34, 288) := by kernel_rfl
-- the values' own types
def rd_L1 (xs : List (List Int)) (i : Int) : (List Int) := xs.getD i.toNat ([] : List Int)
theorem at_L1 {w : World} {A : Option Addr} {n : Nat} {xs : List (List Int)} (h : Kd.C (Kd.slice 3 (Kd.int .i64)) w A n xs) (i : Int) (h0 : 0 ≤ i) (h1 : i < n) : ∃ ad A0 c0, A = some ad ∧ w.cell? (ad.add i.toNat) = some (.slice A0 (rd_L1 xs i).length c0) ∧ (rd_L1 xs i).length ≤ c0 ∧ (Kd.int .i64).C w A0 (rd_L1 xs i).length (rd_L1 xs i) := by
  obtain ⟨ad, c, e, _, hK, hc0⟩ := Kd.C_get h ([] : List Int) i h0 h1
  have hc : ∀ j u, c[j]? = some u → w.cell? (ad.add (i.toNat * 1 + j)) = some u := hc0
  obtain ⟨A0, c0, rfl, l0, g0⟩ := hK
  exact ⟨ad, A0, c0, e, by have hq := hc 0 _ rfl; rwa [Nat.mul_one, Nat.add_zero] at hq, l0, g0⟩

/-! #### struct type 32 -/
structure S32 where
  f0 : Int
  f1 : Int
def z32 : S32 := ⟨(0 : Int), (0 : Int)⟩
def k32 : Kd S32 := Kd.iso (Kd.pair (Kd.int .i64) (Kd.int .i64)) (fun x : S32 => (x.f0, x.f1))
theorem k32_heap : Kd.Heap k32 := Kd.heap_iso _ (Kd.heap_pair (Kd.heap_int .i64) (Kd.heap_int .i64))
theorem k32_open {w : World} {x : S32} {cs : List Value} (h : k32.K w x cs) : cs = [.int .i64 x.f0, .int .i64 x.f1] := by
  obtain ⟨_, _, rfl, rfl, rfl⟩ := h
  exact rfl
theorem k32_openM {w : World} {base : Nat} {ok : Nat → Prop} {x : S32} {cs : List Value} (h : k32.M w base ok x cs) : cs = [.int .i64 x.f0, .int .i64 x.f1] := by
  obtain ⟨_, _, rfl, rfl, rfl⟩ := h
  exact rfl
theorem k32_mk (w : World) (x : S32)  : k32.K w x [.int .i64 x.f0, .int .i64 x.f1] := ⟨[.int .i64 x.f0], [.int .i64 x.f1], rfl, rfl, rfl⟩
theorem k32_mkM (w : World) (base : Nat) (ok : Nat → Prop) (x : S32)  : k32.M w base ok x [.int .i64 x.f0, .int .i64 x.f1] := ⟨[.int .i64 x.f0], [.int .i64 x.f1], rfl, rfl, rfl⟩
theorem k32_mkF (W : World) (ok : Nat → Prop) (x : S32) : Kd.FK k32 W ok x [.int .i64 x.f0, .int .i64 x.f1] := fun W2 _ => k32_mk W2 x
def rd_T32 (xs : List S32) (i : Int) : S32 := xs.getD i.toNat z32
theorem at_T32 {w : World} {A : Option Addr} {n : Nat} {xs : List S32} (h : Kd.C k32 w A n xs) (i : Int) (h0 : 0 ≤ i) (h1 : i < n) : ∃ ad , A = some ad ∧ w.cell? (ad.add (i.toNat * 2)) = some (.int .i64 (rd_T32 xs i).f0) ∧ w.cell? ⟨(ad.add (i.toNat * 2)).block, (ad.add (i.toNat * 2)).off + 1, none⟩ = some (.int .i64 (rd_T32 xs i).f1) := by
  obtain ⟨ad, c, e, _, hK, hc0⟩ := Kd.C_get h z32 i h0 h1
  have hc : ∀ j u, c[j]? = some u → w.cell? (ad.add (i.toNat * 2 + j)) = some u := hc0
  obtain rfl := k32_open hK
  exact ⟨ad, e, hc 0 _ rfl, by rw [← add_field _ _ 1 (by omega)]; exact hc 1 _ rfl⟩

/-! #### struct type 33 -/
structure S33 where
  f0 : Int
  f1 : Int
  f2 : Int
  f3 : Int
def z33 : S33 := ⟨(0 : Int), (0 : Int), (0 : Int), (0 : Int)⟩
def k33 : Kd S33 := Kd.iso (Kd.pair (Kd.int .i64) (Kd.pair (Kd.int .i64) (Kd.pair (Kd.int .i64) (Kd.int .i64)))) (fun x : S33 => (x.f0, x.f1, x.f2, x.f3))
theorem k33_heap : Kd.Heap k33 := Kd.heap_iso _ (Kd.heap_pair (Kd.heap_int .i64) (Kd.heap_pair (Kd.heap_int .i64) (Kd.heap_pair (Kd.heap_int .i64) (Kd.heap_int .i64))))
theorem k33_open {w : World} {x : S33} {cs : List Value} (h : k33.K w x cs) : cs = [.int .i64 x.f0, .int .i64 x.f1, .int .i64 x.f2, .int .i64 x.f3] := by
  obtain ⟨_, _, rfl, rfl, ⟨_, _, rfl, rfl, ⟨_, _, rfl, rfl, rfl⟩⟩⟩ := h
  exact rfl
theorem k33_openM {w : World} {base : Nat} {ok : Nat → Prop} {x : S33} {cs : List Value} (h : k33.M w base ok x cs) : cs = [.int .i64 x.f0, .int .i64 x.f1, .int .i64 x.f2, .int .i64 x.f3] := by
  obtain ⟨_, _, rfl, rfl, ⟨_, _, rfl, rfl, ⟨_, _, rfl, rfl, rfl⟩⟩⟩ := h
  exact rfl
theorem k33_mk (w : World) (x : S33)  : k33.K w x [.int .i64 x.f0, .int .i64 x.f1, .int .i64 x.f2, .int .i64 x.f3] := ⟨[.int .i64 x.f0], [.int .i64 x.f1, .int .i64 x.f2, .int .i64 x.f3], rfl, rfl, ⟨[.int .i64 x.f1], [.int .i64 x.f2, .int .i64 x.f3], rfl, rfl, ⟨[.int .i64 x.f2], [.int .i64 x.f3], rfl, rfl, rfl⟩⟩⟩
theorem k33_mkM (w : World) (base : Nat) (ok : Nat → Prop) (x : S33)  : k33.M w base ok x [.int .i64 x.f0, .int .i64 x.f1, .int .i64 x.f2, .int .i64 x.f3] := ⟨[.int .i64 x.f0], [.int .i64 x.f1, .int .i64 x.f2, .int .i64 x.f3], rfl, rfl, ⟨[.int .i64 x.f1], [.int .i64 x.f2, .int .i64 x.f3], rfl, rfl, ⟨[.int .i64 x.f2], [.int .i64 x.f3], rfl, rfl, rfl⟩⟩⟩
theorem k33_mkF (W : World) (ok : Nat → Prop) (x : S33) : Kd.FK k33 W ok x [.int .i64 x.f0, .int .i64 x.f1, .int .i64 x.f2, .int .i64 x.f3] := fun W2 _ => k33_mk W2 x
def rd_T33 (xs : List S33) (i : Int) : S33 := xs.getD i.toNat z33
theorem at_T33 {w : World} {A : Option Addr} {n : Nat} {xs : List S33} (h : Kd.C k33 w A n xs) (i : Int) (h0 : 0 ≤ i) (h1 : i < n) : ∃ ad , A = some ad ∧ w.cell? (ad.add (i.toNat * 4)) = some (.int .i64 (rd_T33 xs i).f0) ∧ w.cell? ⟨(ad.add (i.toNat * 4)).block, (ad.add (i.toNat * 4)).off + 1, none⟩ = some (.int .i64 (rd_T33 xs i).f1) ∧ w.cell? ⟨(ad.add (i.toNat * 4)).block, (ad.add (i.toNat * 4)).off + 2, none⟩ = some (.int .i64 (rd_T33 xs i).f2) ∧ w.cell? ⟨(ad.add (i.toNat * 4)).block, (ad.add (i.toNat * 4)).off + 3, none⟩ = some (.int .i64 (rd_T33 xs i).f3) := by
  obtain ⟨ad, c, e, _, hK, hc0⟩ := Kd.C_get h z33 i h0 h1
  have hc : ∀ j u, c[j]? = some u → w.cell? (ad.add (i.toNat * 4 + j)) = some u := hc0
  obtain rfl := k33_open hK
  exact ⟨ad, e, hc 0 _ rfl, by rw [← add_field _ _ 1 (by omega)]; exact hc 1 _ rfl, by rw [← add_field _ _ 2 (by omega)]; exact hc 2 _ rfl, by rw [← add_field _ _ 3 (by omega)]; exact hc 3 _ rfl⟩

/-! #### struct type 36 -/
structure S36 where
  f0 : Int
  f1 : Int
  f2 : Int
def z36 : S36 := ⟨(0 : Int), (0 : Int), (0 : Int)⟩
def k36 : Kd S36 := Kd.iso (Kd.pair (Kd.int .i64) (Kd.pair (Kd.int .i64) (Kd.int .u32))) (fun x : S36 => (x.f0, x.f1, x.f2))
theorem k36_heap : Kd.Heap k36 := Kd.heap_iso _ (Kd.heap_pair (Kd.heap_int .i64) (Kd.heap_pair (Kd.heap_int .i64) (Kd.heap_int .u32)))
theorem k36_open {w : World} {x : S36} {cs : List Value} (h : k36.K w x cs) : cs = [.int .i64 x.f0, .int .i64 x.f1, .int .u32 x.f2] := by
  obtain ⟨_, _, rfl, rfl, ⟨_, _, rfl, rfl, rfl⟩⟩ := h
  exact rfl
theorem k36_openM {w : World} {base : Nat} {ok : Nat → Prop} {x : S36} {cs : List Value} (h : k36.M w base ok x cs) : cs = [.int .i64 x.f0, .int .i64 x.f1, .int .u32 x.f2] := by
  obtain ⟨_, _, rfl, rfl, ⟨_, _, rfl, rfl, rfl⟩⟩ := h
  exact rfl
theorem k36_mk (w : World) (x : S36)  : k36.K w x [.int .i64 x.f0, .int .i64 x.f1, .int .u32 x.f2] := ⟨[.int .i64 x.f0], [.int .i64 x.f1, .int .u32 x.f2], rfl, rfl, ⟨[.int .i64 x.f1], [.int .u32 x.f2], rfl, rfl, rfl⟩⟩
theorem k36_mkM (w : World) (base : Nat) (ok : Nat → Prop) (x : S36)  : k36.M w base ok x [.int .i64 x.f0, .int .i64 x.f1, .int .u32 x.f2] := ⟨[.int .i64 x.f0], [.int .i64 x.f1, .int .u32 x.f2], rfl, rfl, ⟨[.int .i64 x.f1], [.int .u32 x.f2], rfl, rfl, rfl⟩⟩
theorem k36_mkF (W : World) (ok : Nat → Prop) (x : S36) : Kd.FK k36 W ok x [.int .i64 x.f0, .int .i64 x.f1, .int .u32 x.f2] := fun W2 _ => k36_mk W2 x
def rd_T36 (xs : List S36) (i : Int) : S36 := xs.getD i.toNat z36
theorem at_T36 {w : World} {A : Option Addr} {n : Nat} {xs : List S36} (h : Kd.C k36 w A n xs) (i : Int) (h0 : 0 ≤ i) (h1 : i < n) : ∃ ad , A = some ad ∧ w.cell? (ad.add (i.toNat * 3)) = some (.int .i64 (rd_T36 xs i).f0) ∧ w.cell? ⟨(ad.add (i.toNat * 3)).block, (ad.add (i.toNat * 3)).off + 1, none⟩ = some (.int .i64 (rd_T36 xs i).f1) ∧ w.cell? ⟨(ad.add (i.toNat * 3)).block, (ad.add (i.toNat * 3)).off + 2, none⟩ = some (.int .u32 (rd_T36 xs i).f2) := by
  obtain ⟨ad, c, e, _, hK, hc0⟩ := Kd.C_get h z36 i h0 h1
  have hc : ∀ j u, c[j]? = some u → w.cell? (ad.add (i.toNat * 3 + j)) = some u := hc0
  obtain rfl := k36_open hK
  exact ⟨ad, e, hc 0 _ rfl, by rw [← add_field _ _ 1 (by omega)]; exact hc 1 _ rfl, by rw [← add_field _ _ 2 (by omega)]; exact hc 2 _ rfl⟩

/-! #### struct type 37 -/
structure S37 where
  f0 : S36
  f1 : S36
  f2 : S36
  f3 : S36
def z37 : S37 := ⟨z36, z36, z36, z36⟩
def k37 : Kd S37 := Kd.iso (Kd.pair k36 (Kd.pair k36 (Kd.pair k36 k36))) (fun x : S37 => (x.f0, x.f1, x.f2, x.f3))
theorem k37_heap : Kd.Heap k37 := Kd.heap_iso _ (Kd.heap_pair k36_heap (Kd.heap_pair k36_heap (Kd.heap_pair k36_heap k36_heap)))
theorem k37_open {w : World} {x : S37} {cs : List Value} (h : k37.K w x cs) : cs = [.int .i64 x.f0.f0, .int .i64 x.f0.f1, .int .u32 x.f0.f2, .int .i64 x.f1.f0, .int .i64 x.f1.f1, .int .u32 x.f1.f2, .int .i64 x.f2.f0, .int .i64 x.f2.f1, .int .u32 x.f2.f2, .int .i64 x.f3.f0, .int .i64 x.f3.f1, .int .u32 x.f3.f2] := by
  obtain ⟨_, _, rfl, s0, ⟨_, _, rfl, s3, ⟨_, _, rfl, s6, s9⟩⟩⟩ := h
  obtain rfl := k36_open s0
  obtain rfl := k36_open s3
  obtain rfl := k36_open s6
  obtain rfl := k36_open s9
  exact rfl
theorem k37_openM {w : World} {base : Nat} {ok : Nat → Prop} {x : S37} {cs : List Value} (h : k37.M w base ok x cs) : cs = [.int .i64 x.f0.f0, .int .i64 x.f0.f1, .int .u32 x.f0.f2, .int .i64 x.f1.f0, .int .i64 x.f1.f1, .int .u32 x.f1.f2, .int .i64 x.f2.f0, .int .i64 x.f2.f1, .int .u32 x.f2.f2, .int .i64 x.f3.f0, .int .i64 x.f3.f1, .int .u32 x.f3.f2] := by
  obtain ⟨_, _, rfl, s0, ⟨_, _, rfl, s3, ⟨_, _, rfl, s6, s9⟩⟩⟩ := h
  obtain rfl := k36_openM s0
  obtain rfl := k36_openM s3
  obtain rfl := k36_openM s6
  obtain rfl := k36_openM s9
  exact rfl
theorem k37_mk (w : World) (x : S37)  : k37.K w x [.int .i64 x.f0.f0, .int .i64 x.f0.f1, .int .u32 x.f0.f2, .int .i64 x.f1.f0, .int .i64 x.f1.f1, .int .u32 x.f1.f2, .int .i64 x.f2.f0, .int .i64 x.f2.f1, .int .u32 x.f2.f2, .int .i64 x.f3.f0, .int .i64 x.f3.f1, .int .u32 x.f3.f2] := ⟨[.int .i64 x.f0.f0, .int .i64 x.f0.f1, .int .u32 x.f0.f2], [.int .i64 x.f1.f0, .int .i64 x.f1.f1, .int .u32 x.f1.f2, .int .i64 x.f2.f0, .int .i64 x.f2.f1, .int .u32 x.f2.f2, .int .i64 x.f3.f0, .int .i64 x.f3.f1, .int .u32 x.f3.f2], rfl, (k36_mk w x.f0 ), ⟨[.int .i64 x.f1.f0, .int .i64 x.f1.f1, .int .u32 x.f1.f2], [.int .i64 x.f2.f0, .int .i64 x.f2.f1, .int .u32 x.f2.f2, .int .i64 x.f3.f0, .int .i64 x.f3.f1, .int .u32 x.f3.f2], rfl, (k36_mk w x.f1 ), ⟨[.int .i64 x.f2.f0, .int .i64 x.f2.f1, .int .u32 x.f2.f2], [.int .i64 x.f3.f0, .int .i64 x.f3.f1, .int .u32 x.f3.f2], rfl, (k36_mk w x.f2 ), (k36_mk w x.f3 )⟩⟩⟩
theorem k37_mkM (w : World) (base : Nat) (ok : Nat → Prop) (x : S37)  : k37.M w base ok x [.int .i64 x.f0.f0, .int .i64 x.f0.f1, .int .u32 x.f0.f2, .int .i64 x.f1.f0, .int .i64 x.f1.f1, .int .u32 x.f1.f2, .int .i64 x.f2.f0, .int .i64 x.f2.f1, .int .u32 x.f2.f2, .int .i64 x.f3.f0, .int .i64 x.f3.f1, .int .u32 x.f3.f2] := ⟨[.int .i64 x.f0.f0, .int .i64 x.f0.f1, .int .u32 x.f0.f2], [.int .i64 x.f1.f0, .int .i64 x.f1.f1, .int .u32 x.f1.f2, .int .i64 x.f2.f0, .int .i64 x.f2.f1, .int .u32 x.f2.f2, .int .i64 x.f3.f0, .int .i64 x.f3.f1, .int .u32 x.f3.f2], rfl, (k36_mkM w base ok x.f0 ), ⟨[.int .i64 x.f1.f0, .int .i64 x.f1.f1, .int .u32 x.f1.f2], [.int .i64 x.f2.f0, .int .i64 x.f2.f1, .int .u32 x.f2.f2, .int .i64 x.f3.f0, .int .i64 x.f3.f1, .int .u32 x.f3.f2], rfl, (k36_mkM w base ok x.f1 ), ⟨[.int .i64 x.f2.f0, .int .i64 x.f2.f1, .int .u32 x.f2.f2], [.int .i64 x.f3.f0, .int .i64 x.f3.f1, .int .u32 x.f3.f2], rfl, (k36_mkM w base ok x.f2 ), (k36_mkM w base ok x.f3 )⟩⟩⟩
theorem k37_mkF (W : World) (ok : Nat → Prop) (x : S37) : Kd.FK k37 W ok x [.int .i64 x.f0.f0, .int .i64 x.f0.f1, .int .u32 x.f0.f2, .int .i64 x.f1.f0, .int .i64 x.f1.f1, .int .u32 x.f1.f2, .int .i64 x.f2.f0, .int .i64 x.f2.f1, .int .u32 x.f2.f2, .int .i64 x.f3.f0, .int .i64 x.f3.f1, .int .u32 x.f3.f2] := fun W2 _ => k37_mk W2 x
def rd_T37 (xs : List S37) (i : Int) : S37 := xs.getD i.toNat z37
theorem at_T37 {w : World} {A : Option Addr} {n : Nat} {xs : List S37} (h : Kd.C k37 w A n xs) (i : Int) (h0 : 0 ≤ i) (h1 : i < n) : ∃ ad , A = some ad ∧ w.cell? (ad.add (i.toNat * 12)) = some (.int .i64 (rd_T37 xs i).f0.f0) ∧ w.cell? ⟨(ad.add (i.toNat * 12)).block, (ad.add (i.toNat * 12)).off + 1, none⟩ = some (.int .i64 (rd_T37 xs i).f0.f1) ∧ w.cell? ⟨(ad.add (i.toNat * 12)).block, (ad.add (i.toNat * 12)).off + 2, none⟩ = some (.int .u32 (rd_T37 xs i).f0.f2) ∧ w.cell? ⟨(ad.add (i.toNat * 12)).block, (ad.add (i.toNat * 12)).off + 3, none⟩ = some (.int .i64 (rd_T37 xs i).f1.f0) ∧ w.cell? ⟨(ad.add (i.toNat * 12)).block, (ad.add (i.toNat * 12)).off + 4, none⟩ = some (.int .i64 (rd_T37 xs i).f1.f1) ∧ w.cell? ⟨(ad.add (i.toNat * 12)).block, (ad.add (i.toNat * 12)).off + 5, none⟩ = some (.int .u32 (rd_T37 xs i).f1.f2) ∧ w.cell? ⟨(ad.add (i.toNat * 12)).block, (ad.add (i.toNat * 12)).off + 6, none⟩ = some (.int .i64 (rd_T37 xs i).f2.f0) ∧ w.cell? ⟨(ad.add (i.toNat * 12)).block, (ad.add (i.toNat * 12)).off + 7, none⟩ = some (.int .i64 (rd_T37 xs i).f2.f1) ∧ w.cell? ⟨(ad.add (i.toNat * 12)).block, (ad.add (i.toNat * 12)).off + 8, none⟩ = some (.int .u32 (rd_T37 xs i).f2.f2) ∧ w.cell? ⟨(ad.add (i.toNat * 12)).block, (ad.add (i.toNat * 12)).off + 9, none⟩ = some (.int .i64 (rd_T37 xs i).f3.f0) ∧ w.cell? ⟨(ad.add (i.toNat * 12)).block, (ad.add (i.toNat * 12)).off + 10, none⟩ = some (.int .i64 (rd_T37 xs i).f3.f1) ∧ w.cell? ⟨(ad.add (i.toNat * 12)).block, (ad.add (i.toNat * 12)).off + 11, none⟩ = some (.int .u32 (rd_T37 xs i).f3.f2) := by
  obtain ⟨ad, c, e, _, hK, hc0⟩ := Kd.C_get h z37 i h0 h1
  have hc : ∀ j u, c[j]? = some u → w.cell? (ad.add (i.toNat * 12 + j)) = some u := hc0
  obtain rfl := k37_open hK
  exact ⟨ad, e, hc 0 _ rfl, by rw [← add_field _ _ 1 (by omega)]; exact hc 1 _ rfl, by rw [← add_field _ _ 2 (by omega)]; exact hc 2 _ rfl, by rw [← add_field _ _ 3 (by omega)]; exact hc 3 _ rfl, by rw [← add_field _ _ 4 (by omega)]; exact hc 4 _ rfl, by rw [← add_field _ _ 5 (by omega)]; exact hc 5 _ rfl, by rw [← add_field _ _ 6 (by omega)]; exact hc 6 _ rfl, by rw [← add_field _ _ 7 (by omega)]; exact hc 7 _ rfl, by rw [← add_field _ _ 8 (by omega)]; exact hc 8 _ rfl, by rw [← add_field _ _ 9 (by omega)]; exact hc 9 _ rfl, by rw [← add_field _ _ 10 (by omega)]; exact hc 10 _ rfl, by rw [← add_field _ _ 11 (by omega)]; exact hc 11 _ rfl⟩

/-! #### struct type 38 -/
structure S38 where
  f0 : Int
  f1 : Int
def z38 : S38 := ⟨(0 : Int), (0 : Int)⟩
def k38 : Kd S38 := Kd.iso (Kd.pair (Kd.int .i64) (Kd.int .i64)) (fun x : S38 => (x.f0, x.f1))
theorem k38_heap : Kd.Heap k38 := Kd.heap_iso _ (Kd.heap_pair (Kd.heap_int .i64) (Kd.heap_int .i64))
theorem k38_open {w : World} {x : S38} {cs : List Value} (h : k38.K w x cs) : cs = [.int .i64 x.f0, .int .i64 x.f1] := by
  obtain ⟨_, _, rfl, rfl, rfl⟩ := h
  exact rfl
theorem k38_openM {w : World} {base : Nat} {ok : Nat → Prop} {x : S38} {cs : List Value} (h : k38.M w base ok x cs) : cs = [.int .i64 x.f0, .int .i64 x.f1] := by
  obtain ⟨_, _, rfl, rfl, rfl⟩ := h
  exact rfl
theorem k38_mk (w : World) (x : S38)  : k38.K w x [.int .i64 x.f0, .int .i64 x.f1] := ⟨[.int .i64 x.f0], [.int .i64 x.f1], rfl, rfl, rfl⟩
theorem k38_mkM (w : World) (base : Nat) (ok : Nat → Prop) (x : S38)  : k38.M w base ok x [.int .i64 x.f0, .int .i64 x.f1] := ⟨[.int .i64 x.f0], [.int .i64 x.f1], rfl, rfl, rfl⟩
theorem k38_mkF (W : World) (ok : Nat → Prop) (x : S38) : Kd.FK k38 W ok x [.int .i64 x.f0, .int .i64 x.f1] := fun W2 _ => k38_mk W2 x
def rd_T38 (xs : List S38) (i : Int) : S38 := xs.getD i.toNat z38
theorem at_T38 {w : World} {A : Option Addr} {n : Nat} {xs : List S38} (h : Kd.C k38 w A n xs) (i : Int) (h0 : 0 ≤ i) (h1 : i < n) : ∃ ad , A = some ad ∧ w.cell? (ad.add (i.toNat * 2)) = some (.int .i64 (rd_T38 xs i).f0) ∧ w.cell? ⟨(ad.add (i.toNat * 2)).block, (ad.add (i.toNat * 2)).off + 1, none⟩ = some (.int .i64 (rd_T38 xs i).f1) := by
  obtain ⟨ad, c, e, _, hK, hc0⟩ := Kd.C_get h z38 i h0 h1
  have hc : ∀ j u, c[j]? = some u → w.cell? (ad.add (i.toNat * 2 + j)) = some u := hc0
  obtain rfl := k38_open hK
  exact ⟨ad, e, hc 0 _ rfl, by rw [← add_field _ _ 1 (by omega)]; exact hc 1 _ rfl⟩

/-! #### struct type 40 -/
structure S40 where
  f0 : S32
  f1 : S32
  f2 : S33
  f3 : S37
  f4 : Int
  f5 : Int
  f6 : Int
  f7 : Bool
  f8 : Bool
  f9 : S38
  f10 : Bool
  f11 : Bool
def z40 : S40 := ⟨z32, z32, z33, z37, (0 : Int), (0 : Int), (0 : Int), false, false, z38, false, false⟩
def k40 : Kd S40 := Kd.iso (Kd.pair k32 (Kd.pair k32 (Kd.pair k33 (Kd.pair k37 (Kd.pair (Kd.int .i64) (Kd.pair (Kd.int .i64) (Kd.pair (Kd.int .i64) (Kd.pair Kd.bool (Kd.pair Kd.bool (Kd.pair k38 (Kd.pair Kd.bool Kd.bool))))))))))) (fun x : S40 => (x.f0, x.f1, x.f2, x.f3, x.f4, x.f5, x.f6, x.f7, x.f8, x.f9, x.f10, x.f11))
theorem k40_heap : Kd.Heap k40 := Kd.heap_iso _ (Kd.heap_pair k32_heap (Kd.heap_pair k32_heap (Kd.heap_pair k33_heap (Kd.heap_pair k37_heap (Kd.heap_pair (Kd.heap_int .i64) (Kd.heap_pair (Kd.heap_int .i64) (Kd.heap_pair (Kd.heap_int .i64) (Kd.heap_pair Kd.heap_bool (Kd.heap_pair Kd.heap_bool (Kd.heap_pair k38_heap (Kd.heap_pair Kd.heap_bool Kd.heap_bool)))))))))))
theorem k40_open {w : World} {x : S40} {cs : List Value} (h : k40.K w x cs) : cs = [.int .i64 x.f0.f0, .int .i64 x.f0.f1, .int .i64 x.f1.f0, .int .i64 x.f1.f1, .int .i64 x.f2.f0, .int .i64 x.f2.f1, .int .i64 x.f2.f2, .int .i64 x.f2.f3, .int .i64 x.f3.f0.f0, .int .i64 x.f3.f0.f1, .int .u32 x.f3.f0.f2, .int .i64 x.f3.f1.f0, .int .i64 x.f3.f1.f1, .int .u32 x.f3.f1.f2, .int .i64 x.f3.f2.f0, .int .i64 x.f3.f2.f1, .int .u32 x.f3.f2.f2, .int .i64 x.f3.f3.f0, .int .i64 x.f3.f3.f1, .int .u32 x.f3.f3.f2, .int .i64 x.f4, .int .i64 x.f5, .int .i64 x.f6, .bool x.f7, .bool x.f8, .int .i64 x.f9.f0, .int .i64 x.f9.f1, .bool x.f10, .bool x.f11] := by
  obtain ⟨_, _, rfl, s0, ⟨_, _, rfl, s2, ⟨_, _, rfl, s4, ⟨_, _, rfl, s8, ⟨_, _, rfl, rfl, ⟨_, _, rfl, rfl, ⟨_, _, rfl, rfl, ⟨_, _, rfl, rfl, ⟨_, _, rfl, rfl, ⟨_, _, rfl, s25, ⟨_, _, rfl, rfl, rfl⟩⟩⟩⟩⟩⟩⟩⟩⟩⟩⟩ := h
  obtain rfl := k32_open s0
  obtain rfl := k32_open s2
  obtain rfl := k33_open s4
  obtain rfl := k37_open s8
  obtain rfl := k38_open s25
  exact rfl
theorem k40_openM {w : World} {base : Nat} {ok : Nat → Prop} {x : S40} {cs : List Value} (h : k40.M w base ok x cs) : cs = [.int .i64 x.f0.f0, .int .i64 x.f0.f1, .int .i64 x.f1.f0, .int .i64 x.f1.f1, .int .i64 x.f2.f0, .int .i64 x.f2.f1, .int .i64 x.f2.f2, .int .i64 x.f2.f3, .int .i64 x.f3.f0.f0, .int .i64 x.f3.f0.f1, .int .u32 x.f3.f0.f2, .int .i64 x.f3.f1.f0, .int .i64 x.f3.f1.f1, .int .u32 x.f3.f1.f2, .int .i64 x.f3.f2.f0, .int .i64 x.f3.f2.f1, .int .u32 x.f3.f2.f2, .int .i64 x.f3.f3.f0, .int .i64 x.f3.f3.f1, .int .u32 x.f3.f3.f2, .int .i64 x.f4, .int .i64 x.f5, .int .i64 x.f6, .bool x.f7, .bool x.f8, .int .i64 x.f9.f0, .int .i64 x.f9.f1, .bool x.f10, .bool x.f11] := by
  obtain ⟨_, _, rfl, s0, ⟨_, _, rfl, s2, ⟨_, _, rfl, s4, ⟨_, _, rfl, s8, ⟨_, _, rfl, rfl, ⟨_, _, rfl, rfl, ⟨_, _, rfl, rfl, ⟨_, _, rfl, rfl, ⟨_, _, rfl, rfl, ⟨_, _, rfl, s25, ⟨_, _, rfl, rfl, rfl⟩⟩⟩⟩⟩⟩⟩⟩⟩⟩⟩ := h
  obtain rfl := k32_openM s0
  obtain rfl := k32_openM s2
  obtain rfl := k33_openM s4
  obtain rfl := k37_openM s8
  obtain rfl := k38_openM s25
  exact rfl
theorem k40_mk (w : World) (x : S40)  : k40.K w x [.int .i64 x.f0.f0, .int .i64 x.f0.f1, .int .i64 x.f1.f0, .int .i64 x.f1.f1, .int .i64 x.f2.f0, .int .i64 x.f2.f1, .int .i64 x.f2.f2, .int .i64 x.f2.f3, .int .i64 x.f3.f0.f0, .int .i64 x.f3.f0.f1, .int .u32 x.f3.f0.f2, .int .i64 x.f3.f1.f0, .int .i64 x.f3.f1.f1, .int .u32 x.f3.f1.f2, .int .i64 x.f3.f2.f0, .int .i64 x.f3.f2.f1, .int .u32 x.f3.f2.f2, .int .i64 x.f3.f3.f0, .int .i64 x.f3.f3.f1, .int .u32 x.f3.f3.f2, .int .i64 x.f4, .int .i64 x.f5, .int .i64 x.f6, .bool x.f7, .bool x.f8, .int .i64 x.f9.f0, .int .i64 x.f9.f1, .bool x.f10, .bool x.f11] := ⟨[.int .i64 x.f0.f0, .int .i64 x.f0.f1], [.int .i64 x.f1.f0, .int .i64 x.f1.f1, .int .i64 x.f2.f0, .int .i64 x.f2.f1, .int .i64 x.f2.f2, .int .i64 x.f2.f3, .int .i64 x.f3.f0.f0, .int .i64 x.f3.f0.f1, .int .u32 x.f3.f0.f2, .int .i64 x.f3.f1.f0, .int .i64 x.f3.f1.f1, .int .u32 x.f3.f1.f2, .int .i64 x.f3.f2.f0, .int .i64 x.f3.f2.f1, .int .u32 x.f3.f2.f2, .int .i64 x.f3.f3.f0, .int .i64 x.f3.f3.f1, .int .u32 x.f3.f3.f2, .int .i64 x.f4, .int .i64 x.f5, .int .i64 x.f6, .bool x.f7, .bool x.f8, .int .i64 x.f9.f0, .int .i64 x.f9.f1, .bool x.f10, .bool x.f11], rfl, (k32_mk w x.f0 ), ⟨[.int .i64 x.f1.f0, .int .i64 x.f1.f1], [.int .i64 x.f2.f0, .int .i64 x.f2.f1, .int .i64 x.f2.f2, .int .i64 x.f2.f3, .int .i64 x.f3.f0.f0, .int .i64 x.f3.f0.f1, .int .u32 x.f3.f0.f2, .int .i64 x.f3.f1.f0, .int .i64 x.f3.f1.f1, .int .u32 x.f3.f1.f2, .int .i64 x.f3.f2.f0, .int .i64 x.f3.f2.f1, .int .u32 x.f3.f2.f2, .int .i64 x.f3.f3.f0, .int .i64 x.f3.f3.f1, .int .u32 x.f3.f3.f2, .int .i64 x.f4, .int .i64 x.f5, .int .i64 x.f6, .bool x.f7, .bool x.f8, .int .i64 x.f9.f0, .int .i64 x.f9.f1, .bool x.f10, .bool x.f11], rfl, (k32_mk w x.f1 ), ⟨[.int .i64 x.f2.f0, .int .i64 x.f2.f1, .int .i64 x.f2.f2, .int .i64 x.f2.f3], [.int .i64 x.f3.f0.f0, .int .i64 x.f3.f0.f1, .int .u32 x.f3.f0.f2, .int .i64 x.f3.f1.f0, .int .i64 x.f3.f1.f1, .int .u32 x.f3.f1.f2, .int .i64 x.f3.f2.f0, .int .i64 x.f3.f2.f1, .int .u32 x.f3.f2.f2, .int .i64 x.f3.f3.f0, .int .i64 x.f3.f3.f1, .int .u32 x.f3.f3.f2, .int .i64 x.f4, .int .i64 x.f5, .int .i64 x.f6, .bool x.f7, .bool x.f8, .int .i64 x.f9.f0, .int .i64 x.f9.f1, .bool x.f10, .bool x.f11], rfl, (k33_mk w x.f2 ), ⟨[.int .i64 x.f3.f0.f0, .int .i64 x.f3.f0.f1, .int .u32 x.f3.f0.f2, .int .i64 x.f3.f1.f0, .int .i64 x.f3.f1.f1, .int .u32 x.f3.f1.f2, .int .i64 x.f3.f2.f0, .int .i64 x.f3.f2.f1, .int .u32 x.f3.f2.f2, .int .i64 x.f3.f3.f0, .int .i64 x.f3.f3.f1, .int .u32 x.f3.f3.f2], [.int .i64 x.f4, .int .i64 x.f5, .int .i64 x.f6, .bool x.f7, .bool x.f8, .int .i64 x.f9.f0, .int .i64 x.f9.f1, .bool x.f10, .bool x.f11], rfl, (k37_mk w x.f3 ), ⟨[.int .i64 x.f4], [.int .i64 x.f5, .int .i64 x.f6, .bool x.f7, .bool x.f8, .int .i64 x.f9.f0, .int .i64 x.f9.f1, .bool x.f10, .bool x.f11], rfl, rfl, ⟨[.int .i64 x.f5], [.int .i64 x.f6, .bool x.f7, .bool x.f8, .int .i64 x.f9.f0, .int .i64 x.f9.f1, .bool x.f10, .bool x.f11], rfl, rfl, ⟨[.int .i64 x.f6], [.bool x.f7, .bool x.f8, .int .i64 x.f9.f0, .int .i64 x.f9.f1, .bool x.f10, .bool x.f11], rfl, rfl, ⟨[.bool x.f7], [.bool x.f8, .int .i64 x.f9.f0, .int .i64 x.f9.f1, .bool x.f10, .bool x.f11], rfl, rfl, ⟨[.bool x.f8], [.int .i64 x.f9.f0, .int .i64 x.f9.f1, .bool x.f10, .bool x.f11], rfl, rfl, ⟨[.int .i64 x.f9.f0, .int .i64 x.f9.f1], [.bool x.f10, .bool x.f11], rfl, (k38_mk w x.f9 ), ⟨[.bool x.f10], [.bool x.f11], rfl, rfl, rfl⟩⟩⟩⟩⟩⟩⟩⟩⟩⟩⟩
theorem k40_mkM (w : World) (base : Nat) (ok : Nat → Prop) (x : S40)  : k40.M w base ok x [.int .i64 x.f0.f0, .int .i64 x.f0.f1, .int .i64 x.f1.f0, .int .i64 x.f1.f1, .int .i64 x.f2.f0, .int .i64 x.f2.f1, .int .i64 x.f2.f2, .int .i64 x.f2.f3, .int .i64 x.f3.f0.f0, .int .i64 x.f3.f0.f1, .int .u32 x.f3.f0.f2, .int .i64 x.f3.f1.f0, .int .i64 x.f3.f1.f1, .int .u32 x.f3.f1.f2, .int .i64 x.f3.f2.f0, .int .i64 x.f3.f2.f1, .int .u32 x.f3.f2.f2, .int .i64 x.f3.f3.f0, .int .i64 x.f3.f3.f1, .int .u32 x.f3.f3.f2, .int .i64 x.f4, .int .i64 x.f5, .int .i64 x.f6, .bool x.f7, .bool x.f8, .int .i64 x.f9.f0, .int .i64 x.f9.f1, .bool x.f10, .bool x.f11] := ⟨[.int .i64 x.f0.f0, .int .i64 x.f0.f1], [.int .i64 x.f1.f0, .int .i64 x.f1.f1, .int .i64 x.f2.f0, .int .i64 x.f2.f1, .int .i64 x.f2.f2, .int .i64 x.f2.f3, .int .i64 x.f3.f0.f0, .int .i64 x.f3.f0.f1, .int .u32 x.f3.f0.f2, .int .i64 x.f3.f1.f0, .int .i64 x.f3.f1.f1, .int .u32 x.f3.f1.f2, .int .i64 x.f3.f2.f0, .int .i64 x.f3.f2.f1, .int .u32 x.f3.f2.f2, .int .i64 x.f3.f3.f0, .int .i64 x.f3.f3.f1, .int .u32 x.f3.f3.f2, .int .i64 x.f4, .int .i64 x.f5, .int .i64 x.f6, .bool x.f7, .bool x.f8, .int .i64 x.f9.f0, .int .i64 x.f9.f1, .bool x.f10, .bool x.f11], rfl, (k32_mkM w base ok x.f0 ), ⟨[.int .i64 x.f1.f0, .int .i64 x.f1.f1], [.int .i64 x.f2.f0, .int .i64 x.f2.f1, .int .i64 x.f2.f2, .int .i64 x.f2.f3, .int .i64 x.f3.f0.f0, .int .i64 x.f3.f0.f1, .int .u32 x.f3.f0.f2, .int .i64 x.f3.f1.f0, .int .i64 x.f3.f1.f1, .int .u32 x.f3.f1.f2, .int .i64 x.f3.f2.f0, .int .i64 x.f3.f2.f1, .int .u32 x.f3.f2.f2, .int .i64 x.f3.f3.f0, .int .i64 x.f3.f3.f1, .int .u32 x.f3.f3.f2, .int .i64 x.f4, .int .i64 x.f5, .int .i64 x.f6, .bool x.f7, .bool x.f8, .int .i64 x.f9.f0, .int .i64 x.f9.f1, .bool x.f10, .bool x.f11], rfl, (k32_mkM w base ok x.f1 ), ⟨[.int .i64 x.f2.f0, .int .i64 x.f2.f1, .int .i64 x.f2.f2, .int .i64 x.f2.f3], [.int .i64 x.f3.f0.f0, .int .i64 x.f3.f0.f1, .int .u32 x.f3.f0.f2, .int .i64 x.f3.f1.f0, .int .i64 x.f3.f1.f1, .int .u32 x.f3.f1.f2, .int .i64 x.f3.f2.f0, .int .i64 x.f3.f2.f1, .int .u32 x.f3.f2.f2, .int .i64 x.f3.f3.f0, .int .i64 x.f3.f3.f1, .int .u32 x.f3.f3.f2, .int .i64 x.f4, .int .i64 x.f5, .int .i64 x.f6, .bool x.f7, .bool x.f8, .int .i64 x.f9.f0, .int .i64 x.f9.f1, .bool x.f10, .bool x.f11], rfl, (k33_mkM w base ok x.f2 ), ⟨[.int .i64 x.f3.f0.f0, .int .i64 x.f3.f0.f1, .int .u32 x.f3.f0.f2, .int .i64 x.f3.f1.f0, .int .i64 x.f3.f1.f1, .int .u32 x.f3.f1.f2, .int .i64 x.f3.f2.f0, .int .i64 x.f3.f2.f1, .int .u32 x.f3.f2.f2, .int .i64 x.f3.f3.f0, .int .i64 x.f3.f3.f1, .int .u32 x.f3.f3.f2], [.int .i64 x.f4, .int .i64 x.f5, .int .i64 x.f6, .bool x.f7, .bool x.f8, .int .i64 x.f9.f0, .int .i64 x.f9.f1, .bool x.f10, .bool x.f11], rfl, (k37_mkM w base ok x.f3 ), ⟨[.int .i64 x.f4], [.int .i64 x.f5, .int .i64 x.f6, .bool x.f7, .bool x.f8, .int .i64 x.f9.f0, .int .i64 x.f9.f1, .bool x.f10, .bool x.f11], rfl, rfl, ⟨[.int .i64 x.f5], [.int .i64 x.f6, .bool x.f7, .bool x.f8, .int .i64 x.f9.f0, .int .i64 x.f9.f1, .bool x.f10, .bool x.f11], rfl, rfl, ⟨[.int .i64 x.f6], [.bool x.f7, .bool x.f8, .int .i64 x.f9.f0, .int .i64 x.f9.f1, .bool x.f10, .bool x.f11], rfl, rfl, ⟨[.bool x.f7], [.bool x.f8, .int .i64 x.f9.f0, .int .i64 x.f9.f1, .bool x.f10, .bool x.f11], rfl, rfl, ⟨[.bool x.f8], [.int .i64 x.f9.f0, .int .i64 x.f9.f1, .bool x.f10, .bool x.f11], rfl, rfl, ⟨[.int .i64 x.f9.f0, .int .i64 x.f9.f1], [.bool x.f10, .bool x.f11], rfl, (k38_mkM w base ok x.f9 ), ⟨[.bool x.f10], [.bool x.f11], rfl, rfl, rfl⟩⟩⟩⟩⟩⟩⟩⟩⟩⟩⟩
theorem k40_mkF (W : World) (ok : Nat → Prop) (x : S40) : Kd.FK k40 W ok x [.int .i64 x.f0.f0, .int .i64 x.f0.f1, .int .i64 x.f1.f0, .int .i64 x.f1.f1, .int .i64 x.f2.f0, .int .i64 x.f2.f1, .int .i64 x.f2.f2, .int .i64 x.f2.f3, .int .i64 x.f3.f0.f0, .int .i64 x.f3.f0.f1, .int .u32 x.f3.f0.f2, .int .i64 x.f3.f1.f0, .int .i64 x.f3.f1.f1, .int .u32 x.f3.f1.f2, .int .i64 x.f3.f2.f0, .int .i64 x.f3.f2.f1, .int .u32 x.f3.f2.f2, .int .i64 x.f3.f3.f0, .int .i64 x.f3.f3.f1, .int .u32 x.f3.f3.f2, .int .i64 x.f4, .int .i64 x.f5, .int .i64 x.f6, .bool x.f7, .bool x.f8, .int .i64 x.f9.f0, .int .i64 x.f9.f1, .bool x.f10, .bool x.f11] := fun W2 _ => k40_mk W2 x
def rd_T40 (xs : List S40) (i : Int) : S40 := xs.getD i.toNat z40
theorem at_T40 {w : World} {A : Option Addr} {n : Nat} {xs : List S40} (h : Kd.C k40 w A n xs) (i : Int) (h0 : 0 ≤ i) (h1 : i < n) : ∃ ad , A = some ad ∧ w.cell? (ad.add (i.toNat * 29)) = some (.int .i64 (rd_T40 xs i).f0.f0) ∧ w.cell? ⟨(ad.add (i.toNat * 29)).block, (ad.add (i.toNat * 29)).off + 1, none⟩ = some (.int .i64 (rd_T40 xs i).f0.f1) ∧ w.cell? ⟨(ad.add (i.toNat * 29)).block, (ad.add (i.toNat * 29)).off + 2, none⟩ = some (.int .i64 (rd_T40 xs i).f1.f0) ∧ w.cell? ⟨(ad.add (i.toNat * 29)).block, (ad.add (i.toNat * 29)).off + 3, none⟩ = some (.int .i64 (rd_T40 xs i).f1.f1) ∧ w.cell? ⟨(ad.add (i.toNat * 29)).block, (ad.add (i.toNat * 29)).off + 4, none⟩ = some (.int .i64 (rd_T40 xs i).f2.f0) ∧ w.cell? ⟨(ad.add (i.toNat * 29)).block, (ad.add (i.toNat * 29)).off + 5, none⟩ = some (.int .i64 (rd_T40 xs i).f2.f1) ∧ w.cell? ⟨(ad.add (i.toNat * 29)).block, (ad.add (i.toNat * 29)).off + 6, none⟩ = some (.int .i64 (rd_T40 xs i).f2.f2) ∧ w.cell? ⟨(ad.add (i.toNat * 29)).block, (ad.add (i.toNat * 29)).off + 7, none⟩ = some (.int .i64 (rd_T40 xs i).f2.f3) ∧ w.cell? ⟨(ad.add (i.toNat * 29)).block, (ad.add (i.toNat * 29)).off + 8, none⟩ = some (.int .i64 (rd_T40 xs i).f3.f0.f0) ∧ w.cell? ⟨(ad.add (i.toNat * 29)).block, (ad.add (i.toNat * 29)).off + 9, none⟩ = some (.int .i64 (rd_T40 xs i).f3.f0.f1) ∧ w.cell? ⟨(ad.add (i.toNat * 29)).block, (ad.add (i.toNat * 29)).off + 10, none⟩ = some (.int .u32 (rd_T40 xs i).f3.f0.f2) ∧ w.cell? ⟨(ad.add (i.toNat * 29)).block, (ad.add (i.toNat * 29)).off + 11, none⟩ = some (.int .i64 (rd_T40 xs i).f3.f1.f0) ∧ w.cell? ⟨(ad.add (i.toNat * 29)).block, (ad.add (i.toNat * 29)).off + 12, none⟩ = some (.int .i64 (rd_T40 xs i).f3.f1.f1) ∧ w.cell? ⟨(ad.add (i.toNat * 29)).block, (ad.add (i.toNat * 29)).off + 13, none⟩ = some (.int .u32 (rd_T40 xs i).f3.f1.f2) ∧ w.cell? ⟨(ad.add (i.toNat * 29)).block, (ad.add (i.toNat * 29)).off + 14, none⟩ = some (.int .i64 (rd_T40 xs i).f3.f2.f0) ∧ w.cell? ⟨(ad.add (i.toNat * 29)).block, (ad.add (i.toNat * 29)).off + 15, none⟩ = some (.int .i64 (rd_T40 xs i).f3.f2.f1) ∧ w.cell? ⟨(ad.add (i.toNat * 29)).block, (ad.add (i.toNat * 29)).off + 16, none⟩ = some (.int .u32 (rd_T40 xs i).f3.f2.f2) ∧ w.cell? ⟨(ad.add (i.toNat * 29)).block, (ad.add (i.toNat * 29)).off + 17, none⟩ = some (.int .i64 (rd_T40 xs i).f3.f3.f0) ∧ w.cell? ⟨(ad.add (i.toNat * 29)).block, (ad.add (i.toNat * 29)).off + 18, none⟩ = some (.int .i64 (rd_T40 xs i).f3.f3.f1) ∧ w.cell? ⟨(ad.add (i.toNat * 29)).block, (ad.add (i.toNat * 29)).off + 19, none⟩ = some (.int .u32 (rd_T40 xs i).f3.f3.f2) ∧ w.cell? ⟨(ad.add (i.toNat * 29)).block, (ad.add (i.toNat * 29)).off + 20, none⟩ = some (.int .i64 (rd_T40 xs i).f4) ∧ w.cell? ⟨(ad.add (i.toNat * 29)).block, (ad.add (i.toNat * 29)).off + 21, none⟩ = some (.int .i64 (rd_T40 xs i).f5) ∧ w.cell? ⟨(ad.add (i.toNat * 29)).block, (ad.add (i.toNat * 29)).off + 22, none⟩ = some (.int .i64 (rd_T40 xs i).f6) ∧ w.cell? ⟨(ad.add (i.toNat * 29)).block, (ad.add (i.toNat * 29)).off + 23, none⟩ = some (.bool (rd_T40 xs i).f7) ∧ w.cell? ⟨(ad.add (i.toNat * 29)).block, (ad.add (i.toNat * 29)).off + 24, none⟩ = some (.bool (rd_T40 xs i).f8) ∧ w.cell? ⟨(ad.add (i.toNat * 29)).block, (ad.add (i.toNat * 29)).off + 25, none⟩ = some (.int .i64 (rd_T40 xs i).f9.f0) ∧ w.cell? ⟨(ad.add (i.toNat * 29)).block, (ad.add (i.toNat * 29)).off + 26, none⟩ = some (.int .i64 (rd_T40 xs i).f9.f1) ∧ w.cell? ⟨(ad.add (i.toNat * 29)).block, (ad.add (i.toNat * 29)).off + 27, none⟩ = some (.bool (rd_T40 xs i).f10) ∧ w.cell? ⟨(ad.add (i.toNat * 29)).block, (ad.add (i.toNat * 29)).off + 28, none⟩ = some (.bool (rd_T40 xs i).f11) := by
  obtain ⟨ad, c, e, _, hK, hc0⟩ := Kd.C_get h z40 i h0 h1
  have hc : ∀ j u, c[j]? = some u → w.cell? (ad.add (i.toNat * 29 + j)) = some u := hc0
  obtain rfl := k40_open hK
  exact ⟨ad, e, hc 0 _ rfl, by rw [← add_field _ _ 1 (by omega)]; exact hc 1 _ rfl, by rw [← add_field _ _ 2 (by omega)]; exact hc 2 _ rfl, by rw [← add_field _ _ 3 (by omega)]; exact hc 3 _ rfl, by rw [← add_field _ _ 4 (by omega)]; exact hc 4 _ rfl, by rw [← add_field _ _ 5 (by omega)]; exact hc 5 _ rfl, by rw [← add_field _ _ 6 (by omega)]; exact hc 6 _ rfl, by rw [← add_field _ _ 7 (by omega)]; exact hc 7 _ rfl, by rw [← add_field _ _ 8 (by omega)]; exact hc 8 _ rfl, by rw [← add_field _ _ 9 (by omega)]; exact hc 9 _ rfl, by rw [← add_field _ _ 10 (by omega)]; exact hc 10 _ rfl, by rw [← add_field _ _ 11 (by omega)]; exact hc 11 _ rfl, by rw [← add_field _ _ 12 (by omega)]; exact hc 12 _ rfl, by rw [← add_field _ _ 13 (by omega)]; exact hc 13 _ rfl, by rw [← add_field _ _ 14 (by omega)]; exact hc 14 _ rfl, by rw [← add_field _ _ 15 (by omega)]; exact hc 15 _ rfl, by rw [← add_field _ _ 16 (by omega)]; exact hc 16 _ rfl, by rw [← add_field _ _ 17 (by omega)]; exact hc 17 _ rfl, by rw [← add_field _ _ 18 (by omega)]; exact hc 18 _ rfl, by rw [← add_field _ _ 19 (by omega)]; exact hc 19 _ rfl, by rw [← add_field _ _ 20 (by omega)]; exact hc 20 _ rfl, by rw [← add_field _ _ 21 (by omega)]; exact hc 21 _ rfl, by rw [← add_field _ _ 22 (by omega)]; exact hc 22 _ rfl, by rw [← add_field _ _ 23 (by omega)]; exact hc 23 _ rfl, by rw [← add_field _ _ 24 (by omega)]; exact hc 24 _ rfl, by rw [← add_field _ _ 25 (by omega)]; exact hc 25 _ rfl, by rw [← add_field _ _ 26 (by omega)]; exact hc 26 _ rfl, by rw [← add_field _ _ 27 (by omega)]; exact hc 27 _ rfl, by rw [← add_field _ _ 28 (by omega)]; exact hc 28 _ rfl⟩

def rd_L10 (xs : List (List Int)) (i : Int) : (List Int) := xs.getD i.toNat ([] : List Int)
theorem at_L10 {w : World} {A : Option Addr} {n : Nat} {xs : List (List Int)} (h : Kd.C (Kd.slice 2 (Kd.int .i64)) w A n xs) (i : Int) (h0 : 0 ≤ i) (h1 : i < n) : ∃ ad A0 c0, A = some ad ∧ w.cell? (ad.add i.toNat) = some (.slice A0 (rd_L10 xs i).length c0) ∧ (rd_L10 xs i).length ≤ c0 ∧ (Kd.int .i64).C w A0 (rd_L10 xs i).length (rd_L10 xs i) := by
  obtain ⟨ad, c, e, _, hK, hc0⟩ := Kd.C_get h ([] : List Int) i h0 h1
  have hc : ∀ j u, c[j]? = some u → w.cell? (ad.add (i.toNat * 1 + j)) = some u := hc0
  obtain ⟨A0, c0, rfl, l0, g0⟩ := hK
  exact ⟨ad, A0, c0, e, by have hq := hc 0 _ rfl; rwa [Nat.mul_one, Nat.add_zero] at hq, l0, g0⟩

/-! #### struct type 43 -/
structure S43 where
  f0 : Int
  f1 : (List Int)
  f2 : S40
  f3 : (List Int)
  f4 : Int
  f5 : Int
def z43 : S43 := ⟨(0 : Int), ([] : List Int), z40, ([] : List Int), (0 : Int), (0 : Int)⟩
def k43 : Kd S43 := Kd.iso (Kd.pair (Kd.int .i64) (Kd.pair (Kd.slice 3 (Kd.int .i64)) (Kd.pair k40 (Kd.pair (Kd.slice 2 (Kd.int .i64)) (Kd.pair (Kd.int .i64) (Kd.int .i64)))))) (fun x : S43 => (x.f0, x.f1, x.f2, x.f3, x.f4, x.f5))
theorem k43_heap : Kd.Heap k43 := Kd.heap_iso _ (Kd.heap_pair (Kd.heap_int .i64) (Kd.heap_pair (Kd.heap_slice 3 (Kd.heap_int .i64)) (Kd.heap_pair k40_heap (Kd.heap_pair (Kd.heap_slice 2 (Kd.heap_int .i64)) (Kd.heap_pair (Kd.heap_int .i64) (Kd.heap_int .i64))))))
theorem k43_open {w : World} {x : S43} {cs : List Value} (h : k43.K w x cs) : ∃ A1 c1 A31 c31, cs = [.int .i64 x.f0, .slice A1 x.f1.length c1, .int .i64 x.f2.f0.f0, .int .i64 x.f2.f0.f1, .int .i64 x.f2.f1.f0, .int .i64 x.f2.f1.f1, .int .i64 x.f2.f2.f0, .int .i64 x.f2.f2.f1, .int .i64 x.f2.f2.f2, .int .i64 x.f2.f2.f3, .int .i64 x.f2.f3.f0.f0, .int .i64 x.f2.f3.f0.f1, .int .u32 x.f2.f3.f0.f2, .int .i64 x.f2.f3.f1.f0, .int .i64 x.f2.f3.f1.f1, .int .u32 x.f2.f3.f1.f2, .int .i64 x.f2.f3.f2.f0, .int .i64 x.f2.f3.f2.f1, .int .u32 x.f2.f3.f2.f2, .int .i64 x.f2.f3.f3.f0, .int .i64 x.f2.f3.f3.f1, .int .u32 x.f2.f3.f3.f2, .int .i64 x.f2.f4, .int .i64 x.f2.f5, .int .i64 x.f2.f6, .bool x.f2.f7, .bool x.f2.f8, .int .i64 x.f2.f9.f0, .int .i64 x.f2.f9.f1, .bool x.f2.f10, .bool x.f2.f11, .slice A31 x.f3.length c31, .int .i64 x.f4, .int .i64 x.f5] ∧ x.f1.length ≤ c1 ∧ (Kd.int .i64).C w A1 x.f1.length x.f1 ∧ x.f3.length ≤ c31 ∧ (Kd.int .i64).C w A31 x.f3.length x.f3 := by
  obtain ⟨_, _, rfl, rfl, ⟨_, _, rfl, ⟨A1, c1, rfl, l1, g1⟩, ⟨_, _, rfl, s2, ⟨_, _, rfl, ⟨A31, c31, rfl, l31, g31⟩, ⟨_, _, rfl, rfl, rfl⟩⟩⟩⟩⟩ := h
  obtain rfl := k40_open s2
  exact ⟨A1, c1, A31, c31, rfl, l1, g1, l31, g31⟩
theorem k43_openM {w : World} {base : Nat} {ok : Nat → Prop} {x : S43} {cs : List Value} (h : k43.M w base ok x cs) : ∃ v1 v31, cs = [.int .i64 x.f0, v1, .int .i64 x.f2.f0.f0, .int .i64 x.f2.f0.f1, .int .i64 x.f2.f1.f0, .int .i64 x.f2.f1.f1, .int .i64 x.f2.f2.f0, .int .i64 x.f2.f2.f1, .int .i64 x.f2.f2.f2, .int .i64 x.f2.f2.f3, .int .i64 x.f2.f3.f0.f0, .int .i64 x.f2.f3.f0.f1, .int .u32 x.f2.f3.f0.f2, .int .i64 x.f2.f3.f1.f0, .int .i64 x.f2.f3.f1.f1, .int .u32 x.f2.f3.f1.f2, .int .i64 x.f2.f3.f2.f0, .int .i64 x.f2.f3.f2.f1, .int .u32 x.f2.f3.f2.f2, .int .i64 x.f2.f3.f3.f0, .int .i64 x.f2.f3.f3.f1, .int .u32 x.f2.f3.f3.f2, .int .i64 x.f2.f4, .int .i64 x.f2.f5, .int .i64 x.f2.f6, .bool x.f2.f7, .bool x.f2.f8, .int .i64 x.f2.f9.f0, .int .i64 x.f2.f9.f1, .bool x.f2.f10, .bool x.f2.f11, v31, .int .i64 x.f4, .int .i64 x.f5] ∧ (Kd.int .i64).R 3 w base ok v1 x.f1 ∧ (Kd.int .i64).R 2 w base ok v31 x.f3 := by
  obtain ⟨_, _, rfl, rfl, ⟨_, _, rfl, ⟨v1, rfl, g1⟩, ⟨_, _, rfl, s2, ⟨_, _, rfl, ⟨v31, rfl, g31⟩, ⟨_, _, rfl, rfl, rfl⟩⟩⟩⟩⟩ := h
  obtain rfl := k40_openM s2
  exact ⟨v1, v31, rfl, g1, g31⟩
theorem k43_mk (w : World) (x : S43) {A1 : Option Addr} {c1 : Nat} (l1 : x.f1.length ≤ c1) (g1 : (Kd.int .i64).C w A1 x.f1.length x.f1) {A31 : Option Addr} {c31 : Nat} (l31 : x.f3.length ≤ c31) (g31 : (Kd.int .i64).C w A31 x.f3.length x.f3) : k43.K w x [.int .i64 x.f0, .slice A1 x.f1.length c1, .int .i64 x.f2.f0.f0, .int .i64 x.f2.f0.f1, .int .i64 x.f2.f1.f0, .int .i64 x.f2.f1.f1, .int .i64 x.f2.f2.f0, .int .i64 x.f2.f2.f1, .int .i64 x.f2.f2.f2, .int .i64 x.f2.f2.f3, .int .i64 x.f2.f3.f0.f0, .int .i64 x.f2.f3.f0.f1, .int .u32 x.f2.f3.f0.f2, .int .i64 x.f2.f3.f1.f0, .int .i64 x.f2.f3.f1.f1, .int .u32 x.f2.f3.f1.f2, .int .i64 x.f2.f3.f2.f0, .int .i64 x.f2.f3.f2.f1, .int .u32 x.f2.f3.f2.f2, .int .i64 x.f2.f3.f3.f0, .int .i64 x.f2.f3.f3.f1, .int .u32 x.f2.f3.f3.f2, .int .i64 x.f2.f4, .int .i64 x.f2.f5, .int .i64 x.f2.f6, .bool x.f2.f7, .bool x.f2.f8, .int .i64 x.f2.f9.f0, .int .i64 x.f2.f9.f1, .bool x.f2.f10, .bool x.f2.f11, .slice A31 x.f3.length c31, .int .i64 x.f4, .int .i64 x.f5] := ⟨[.int .i64 x.f0], [.slice A1 x.f1.length c1, .int .i64 x.f2.f0.f0, .int .i64 x.f2.f0.f1, .int .i64 x.f2.f1.f0, .int .i64 x.f2.f1.f1, .int .i64 x.f2.f2.f0, .int .i64 x.f2.f2.f1, .int .i64 x.f2.f2.f2, .int .i64 x.f2.f2.f3, .int .i64 x.f2.f3.f0.f0, .int .i64 x.f2.f3.f0.f1, .int .u32 x.f2.f3.f0.f2, .int .i64 x.f2.f3.f1.f0, .int .i64 x.f2.f3.f1.f1, .int .u32 x.f2.f3.f1.f2, .int .i64 x.f2.f3.f2.f0, .int .i64 x.f2.f3.f2.f1, .int .u32 x.f2.f3.f2.f2, .int .i64 x.f2.f3.f3.f0, .int .i64 x.f2.f3.f3.f1, .int .u32 x.f2.f3.f3.f2, .int .i64 x.f2.f4, .int .i64 x.f2.f5, .int .i64 x.f2.f6, .bool x.f2.f7, .bool x.f2.f8, .int .i64 x.f2.f9.f0, .int .i64 x.f2.f9.f1, .bool x.f2.f10, .bool x.f2.f11, .slice A31 x.f3.length c31, .int .i64 x.f4, .int .i64 x.f5], rfl, rfl, ⟨[.slice A1 x.f1.length c1], [.int .i64 x.f2.f0.f0, .int .i64 x.f2.f0.f1, .int .i64 x.f2.f1.f0, .int .i64 x.f2.f1.f1, .int .i64 x.f2.f2.f0, .int .i64 x.f2.f2.f1, .int .i64 x.f2.f2.f2, .int .i64 x.f2.f2.f3, .int .i64 x.f2.f3.f0.f0, .int .i64 x.f2.f3.f0.f1, .int .u32 x.f2.f3.f0.f2, .int .i64 x.f2.f3.f1.f0, .int .i64 x.f2.f3.f1.f1, .int .u32 x.f2.f3.f1.f2, .int .i64 x.f2.f3.f2.f0, .int .i64 x.f2.f3.f2.f1, .int .u32 x.f2.f3.f2.f2, .int .i64 x.f2.f3.f3.f0, .int .i64 x.f2.f3.f3.f1, .int .u32 x.f2.f3.f3.f2, .int .i64 x.f2.f4, .int .i64 x.f2.f5, .int .i64 x.f2.f6, .bool x.f2.f7, .bool x.f2.f8, .int .i64 x.f2.f9.f0, .int .i64 x.f2.f9.f1, .bool x.f2.f10, .bool x.f2.f11, .slice A31 x.f3.length c31, .int .i64 x.f4, .int .i64 x.f5], rfl, ⟨A1, c1, rfl, l1, g1⟩, ⟨[.int .i64 x.f2.f0.f0, .int .i64 x.f2.f0.f1, .int .i64 x.f2.f1.f0, .int .i64 x.f2.f1.f1, .int .i64 x.f2.f2.f0, .int .i64 x.f2.f2.f1, .int .i64 x.f2.f2.f2, .int .i64 x.f2.f2.f3, .int .i64 x.f2.f3.f0.f0, .int .i64 x.f2.f3.f0.f1, .int .u32 x.f2.f3.f0.f2, .int .i64 x.f2.f3.f1.f0, .int .i64 x.f2.f3.f1.f1, .int .u32 x.f2.f3.f1.f2, .int .i64 x.f2.f3.f2.f0, .int .i64 x.f2.f3.f2.f1, .int .u32 x.f2.f3.f2.f2, .int .i64 x.f2.f3.f3.f0, .int .i64 x.f2.f3.f3.f1, .int .u32 x.f2.f3.f3.f2, .int .i64 x.f2.f4, .int .i64 x.f2.f5, .int .i64 x.f2.f6, .bool x.f2.f7, .bool x.f2.f8, .int .i64 x.f2.f9.f0, .int .i64 x.f2.f9.f1, .bool x.f2.f10, .bool x.f2.f11], [.slice A31 x.f3.length c31, .int .i64 x.f4, .int .i64 x.f5], rfl, (k40_mk w x.f2 ), ⟨[.slice A31 x.f3.length c31], [.int .i64 x.f4, .int .i64 x.f5], rfl, ⟨A31, c31, rfl, l31, g31⟩, ⟨[.int .i64 x.f4], [.int .i64 x.f5], rfl, rfl, rfl⟩⟩⟩⟩⟩
theorem k43_mkM (w : World) (base : Nat) (ok : Nat → Prop) (x : S43) {v1 : Value} (g1 : (Kd.int .i64).R 3 w base ok v1 x.f1) {v31 : Value} (g31 : (Kd.int .i64).R 2 w base ok v31 x.f3) : k43.M w base ok x [.int .i64 x.f0, v1, .int .i64 x.f2.f0.f0, .int .i64 x.f2.f0.f1, .int .i64 x.f2.f1.f0, .int .i64 x.f2.f1.f1, .int .i64 x.f2.f2.f0, .int .i64 x.f2.f2.f1, .int .i64 x.f2.f2.f2, .int .i64 x.f2.f2.f3, .int .i64 x.f2.f3.f0.f0, .int .i64 x.f2.f3.f0.f1, .int .u32 x.f2.f3.f0.f2, .int .i64 x.f2.f3.f1.f0, .int .i64 x.f2.f3.f1.f1, .int .u32 x.f2.f3.f1.f2, .int .i64 x.f2.f3.f2.f0, .int .i64 x.f2.f3.f2.f1, .int .u32 x.f2.f3.f2.f2, .int .i64 x.f2.f3.f3.f0, .int .i64 x.f2.f3.f3.f1, .int .u32 x.f2.f3.f3.f2, .int .i64 x.f2.f4, .int .i64 x.f2.f5, .int .i64 x.f2.f6, .bool x.f2.f7, .bool x.f2.f8, .int .i64 x.f2.f9.f0, .int .i64 x.f2.f9.f1, .bool x.f2.f10, .bool x.f2.f11, v31, .int .i64 x.f4, .int .i64 x.f5] := ⟨[.int .i64 x.f0], [v1, .int .i64 x.f2.f0.f0, .int .i64 x.f2.f0.f1, .int .i64 x.f2.f1.f0, .int .i64 x.f2.f1.f1, .int .i64 x.f2.f2.f0, .int .i64 x.f2.f2.f1, .int .i64 x.f2.f2.f2, .int .i64 x.f2.f2.f3, .int .i64 x.f2.f3.f0.f0, .int .i64 x.f2.f3.f0.f1, .int .u32 x.f2.f3.f0.f2, .int .i64 x.f2.f3.f1.f0, .int .i64 x.f2.f3.f1.f1, .int .u32 x.f2.f3.f1.f2, .int .i64 x.f2.f3.f2.f0, .int .i64 x.f2.f3.f2.f1, .int .u32 x.f2.f3.f2.f2, .int .i64 x.f2.f3.f3.f0, .int .i64 x.f2.f3.f3.f1, .int .u32 x.f2.f3.f3.f2, .int .i64 x.f2.f4, .int .i64 x.f2.f5, .int .i64 x.f2.f6, .bool x.f2.f7, .bool x.f2.f8, .int .i64 x.f2.f9.f0, .int .i64 x.f2.f9.f1, .bool x.f2.f10, .bool x.f2.f11, v31, .int .i64 x.f4, .int .i64 x.f5], rfl, rfl, ⟨[v1], [.int .i64 x.f2.f0.f0, .int .i64 x.f2.f0.f1, .int .i64 x.f2.f1.f0, .int .i64 x.f2.f1.f1, .int .i64 x.f2.f2.f0, .int .i64 x.f2.f2.f1, .int .i64 x.f2.f2.f2, .int .i64 x.f2.f2.f3, .int .i64 x.f2.f3.f0.f0, .int .i64 x.f2.f3.f0.f1, .int .u32 x.f2.f3.f0.f2, .int .i64 x.f2.f3.f1.f0, .int .i64 x.f2.f3.f1.f1, .int .u32 x.f2.f3.f1.f2, .int .i64 x.f2.f3.f2.f0, .int .i64 x.f2.f3.f2.f1, .int .u32 x.f2.f3.f2.f2, .int .i64 x.f2.f3.f3.f0, .int .i64 x.f2.f3.f3.f1, .int .u32 x.f2.f3.f3.f2, .int .i64 x.f2.f4, .int .i64 x.f2.f5, .int .i64 x.f2.f6, .bool x.f2.f7, .bool x.f2.f8, .int .i64 x.f2.f9.f0, .int .i64 x.f2.f9.f1, .bool x.f2.f10, .bool x.f2.f11, v31, .int .i64 x.f4, .int .i64 x.f5], rfl, ⟨v1, rfl, g1⟩, ⟨[.int .i64 x.f2.f0.f0, .int .i64 x.f2.f0.f1, .int .i64 x.f2.f1.f0, .int .i64 x.f2.f1.f1, .int .i64 x.f2.f2.f0, .int .i64 x.f2.f2.f1, .int .i64 x.f2.f2.f2, .int .i64 x.f2.f2.f3, .int .i64 x.f2.f3.f0.f0, .int .i64 x.f2.f3.f0.f1, .int .u32 x.f2.f3.f0.f2, .int .i64 x.f2.f3.f1.f0, .int .i64 x.f2.f3.f1.f1, .int .u32 x.f2.f3.f1.f2, .int .i64 x.f2.f3.f2.f0, .int .i64 x.f2.f3.f2.f1, .int .u32 x.f2.f3.f2.f2, .int .i64 x.f2.f3.f3.f0, .int .i64 x.f2.f3.f3.f1, .int .u32 x.f2.f3.f3.f2, .int .i64 x.f2.f4, .int .i64 x.f2.f5, .int .i64 x.f2.f6, .bool x.f2.f7, .bool x.f2.f8, .int .i64 x.f2.f9.f0, .int .i64 x.f2.f9.f1, .bool x.f2.f10, .bool x.f2.f11], [v31, .int .i64 x.f4, .int .i64 x.f5], rfl, (k40_mkM w base ok x.f2 ), ⟨[v31], [.int .i64 x.f4, .int .i64 x.f5], rfl, ⟨v31, rfl, g31⟩, ⟨[.int .i64 x.f4], [.int .i64 x.f5], rfl, rfl, rfl⟩⟩⟩⟩⟩
theorem k43_openF {W : World} {ok : Nat → Prop} {x : S43} {cs : List Value} (h : Kd.FK k43 W ok x cs) : ∃ A1 c1 A31 c31, cs = [.int .i64 x.f0, .slice A1 x.f1.length c1, .int .i64 x.f2.f0.f0, .int .i64 x.f2.f0.f1, .int .i64 x.f2.f1.f0, .int .i64 x.f2.f1.f1, .int .i64 x.f2.f2.f0, .int .i64 x.f2.f2.f1, .int .i64 x.f2.f2.f2, .int .i64 x.f2.f2.f3, .int .i64 x.f2.f3.f0.f0, .int .i64 x.f2.f3.f0.f1, .int .u32 x.f2.f3.f0.f2, .int .i64 x.f2.f3.f1.f0, .int .i64 x.f2.f3.f1.f1, .int .u32 x.f2.f3.f1.f2, .int .i64 x.f2.f3.f2.f0, .int .i64 x.f2.f3.f2.f1, .int .u32 x.f2.f3.f2.f2, .int .i64 x.f2.f3.f3.f0, .int .i64 x.f2.f3.f3.f1, .int .u32 x.f2.f3.f3.f2, .int .i64 x.f2.f4, .int .i64 x.f2.f5, .int .i64 x.f2.f6, .bool x.f2.f7, .bool x.f2.f8, .int .i64 x.f2.f9.f0, .int .i64 x.f2.f9.f1, .bool x.f2.f10, .bool x.f2.f11, .slice A31 x.f3.length c31, .int .i64 x.f4, .int .i64 x.f5] ∧ x.f1.length ≤ c1 ∧ Kd.F (Kd.int .i64) W ok A1 x.f1.length x.f1 ∧ x.f3.length ≤ c31 ∧ Kd.F (Kd.int .i64) W ok A31 x.f3.length x.f3 := by
  obtain ⟨A1, c1, A31, c31, rfl, l1, _, l31, _⟩ := k43_open (Kd.FK_now h)
  exact ⟨A1, c1, A31, c31, rfl, l1, (fun W' hW => by obtain ⟨A1_, c1_, A31_, c31_, he, l1_, g1_, l31_, g31_⟩ := k43_open (h W' hW); injection (Option.some.inj (show some (Value.slice A1 x.f1.length c1) = some (Value.slice A1_ x.f1.length c1_) from congrArg (fun l => l[1]?) he)) with ha_ _ _; rw [ha_]; exact g1_), l31, (fun W' hW => by obtain ⟨A1_, c1_, A31_, c31_, he, l1_, g1_, l31_, g31_⟩ := k43_open (h W' hW); injection (Option.some.inj (show some (Value.slice A31 x.f3.length c31) = some (Value.slice A31_ x.f3.length c31_) from congrArg (fun l => l[31]?) he)) with ha_ _ _; rw [ha_]; exact g31_)⟩
theorem k43_mkF (W : World) (ok : Nat → Prop) (x : S43) {A1 : Option Addr} {c1 : Nat} (l1 : x.f1.length ≤ c1) (g1 : Kd.F (Kd.int .i64) W ok A1 x.f1.length x.f1) {A31 : Option Addr} {c31 : Nat} (l31 : x.f3.length ≤ c31) (g31 : Kd.F (Kd.int .i64) W ok A31 x.f3.length x.f3) : Kd.FK k43 W ok x [.int .i64 x.f0, .slice A1 x.f1.length c1, .int .i64 x.f2.f0.f0, .int .i64 x.f2.f0.f1, .int .i64 x.f2.f1.f0, .int .i64 x.f2.f1.f1, .int .i64 x.f2.f2.f0, .int .i64 x.f2.f2.f1, .int .i64 x.f2.f2.f2, .int .i64 x.f2.f2.f3, .int .i64 x.f2.f3.f0.f0, .int .i64 x.f2.f3.f0.f1, .int .u32 x.f2.f3.f0.f2, .int .i64 x.f2.f3.f1.f0, .int .i64 x.f2.f3.f1.f1, .int .u32 x.f2.f3.f1.f2, .int .i64 x.f2.f3.f2.f0, .int .i64 x.f2.f3.f2.f1, .int .u32 x.f2.f3.f2.f2, .int .i64 x.f2.f3.f3.f0, .int .i64 x.f2.f3.f3.f1, .int .u32 x.f2.f3.f3.f2, .int .i64 x.f2.f4, .int .i64 x.f2.f5, .int .i64 x.f2.f6, .bool x.f2.f7, .bool x.f2.f8, .int .i64 x.f2.f9.f0, .int .i64 x.f2.f9.f1, .bool x.f2.f10, .bool x.f2.f11, .slice A31 x.f3.length c31, .int .i64 x.f4, .int .i64 x.f5] := fun W2 hW => k43_mk W2 x l1 (g1 W2 hW) l31 (g31 W2 hW)
def rd_T43 (xs : List S43) (i : Int) : S43 := xs.getD i.toNat z43
theorem at_T43 {w : World} {A : Option Addr} {n : Nat} {xs : List S43} (h : Kd.C k43 w A n xs) (i : Int) (h0 : 0 ≤ i) (h1 : i < n) : ∃ ad A1 c1 A31 c31, A = some ad ∧ w.cell? (ad.add (i.toNat * 34)) = some (.int .i64 (rd_T43 xs i).f0) ∧ w.cell? ⟨(ad.add (i.toNat * 34)).block, (ad.add (i.toNat * 34)).off + 1, none⟩ = some (.slice A1 (rd_T43 xs i).f1.length c1) ∧ w.cell? ⟨(ad.add (i.toNat * 34)).block, (ad.add (i.toNat * 34)).off + 2, none⟩ = some (.int .i64 (rd_T43 xs i).f2.f0.f0) ∧ w.cell? ⟨(ad.add (i.toNat * 34)).block, (ad.add (i.toNat * 34)).off + 3, none⟩ = some (.int .i64 (rd_T43 xs i).f2.f0.f1) ∧ w.cell? ⟨(ad.add (i.toNat * 34)).block, (ad.add (i.toNat * 34)).off + 4, none⟩ = some (.int .i64 (rd_T43 xs i).f2.f1.f0) ∧ w.cell? ⟨(ad.add (i.toNat * 34)).block, (ad.add (i.toNat * 34)).off + 5, none⟩ = some (.int .i64 (rd_T43 xs i).f2.f1.f1) ∧ w.cell? ⟨(ad.add (i.toNat * 34)).block, (ad.add (i.toNat * 34)).off + 6, none⟩ = some (.int .i64 (rd_T43 xs i).f2.f2.f0) ∧ w.cell? ⟨(ad.add (i.toNat * 34)).block, (ad.add (i.toNat * 34)).off + 7, none⟩ = some (.int .i64 (rd_T43 xs i).f2.f2.f1) ∧ w.cell? ⟨(ad.add (i.toNat * 34)).block, (ad.add (i.toNat * 34)).off + 8, none⟩ = some (.int .i64 (rd_T43 xs i).f2.f2.f2) ∧ w.cell? ⟨(ad.add (i.toNat * 34)).block, (ad.add (i.toNat * 34)).off + 9, none⟩ = some (.int .i64 (rd_T43 xs i).f2.f2.f3) ∧ w.cell? ⟨(ad.add (i.toNat * 34)).block, (ad.add (i.toNat * 34)).off + 10, none⟩ = some (.int .i64 (rd_T43 xs i).f2.f3.f0.f0) ∧ w.cell? ⟨(ad.add (i.toNat * 34)).block, (ad.add (i.toNat * 34)).off + 11, none⟩ = some (.int .i64 (rd_T43 xs i).f2.f3.f0.f1) ∧ w.cell? ⟨(ad.add (i.toNat * 34)).block, (ad.add (i.toNat * 34)).off + 12, none⟩ = some (.int .u32 (rd_T43 xs i).f2.f3.f0.f2) ∧ w.cell? ⟨(ad.add (i.toNat * 34)).block, (ad.add (i.toNat * 34)).off + 13, none⟩ = some (.int .i64 (rd_T43 xs i).f2.f3.f1.f0) ∧ w.cell? ⟨(ad.add (i.toNat * 34)).block, (ad.add (i.toNat * 34)).off + 14, none⟩ = some (.int .i64 (rd_T43 xs i).f2.f3.f1.f1) ∧ w.cell? ⟨(ad.add (i.toNat * 34)).block, (ad.add (i.toNat * 34)).off + 15, none⟩ = some (.int .u32 (rd_T43 xs i).f2.f3.f1.f2) ∧ w.cell? ⟨(ad.add (i.toNat * 34)).block, (ad.add (i.toNat * 34)).off + 16, none⟩ = some (.int .i64 (rd_T43 xs i).f2.f3.f2.f0) ∧ w.cell? ⟨(ad.add (i.toNat * 34)).block, (ad.add (i.toNat * 34)).off + 17, none⟩ = some (.int .i64 (rd_T43 xs i).f2.f3.f2.f1) ∧ w.cell? ⟨(ad.add (i.toNat * 34)).block, (ad.add (i.toNat * 34)).off + 18, none⟩ = some (.int .u32 (rd_T43 xs i).f2.f3.f2.f2) ∧ w.cell? ⟨(ad.add (i.toNat * 34)).block, (ad.add (i.toNat * 34)).off + 19, none⟩ = some (.int .i64 (rd_T43 xs i).f2.f3.f3.f0) ∧ w.cell? ⟨(ad.add (i.toNat * 34)).block, (ad.add (i.toNat * 34)).off + 20, none⟩ = some (.int .i64 (rd_T43 xs i).f2.f3.f3.f1) ∧ w.cell? ⟨(ad.add (i.toNat * 34)).block, (ad.add (i.toNat * 34)).off + 21, none⟩ = some (.int .u32 (rd_T43 xs i).f2.f3.f3.f2) ∧ w.cell? ⟨(ad.add (i.toNat * 34)).block, (ad.add (i.toNat * 34)).off + 22, none⟩ = some (.int .i64 (rd_T43 xs i).f2.f4) ∧ w.cell? ⟨(ad.add (i.toNat * 34)).block, (ad.add (i.toNat * 34)).off + 23, none⟩ = some (.int .i64 (rd_T43 xs i).f2.f5) ∧ w.cell? ⟨(ad.add (i.toNat * 34)).block, (ad.add (i.toNat * 34)).off + 24, none⟩ = some (.int .i64 (rd_T43 xs i).f2.f6) ∧ w.cell? ⟨(ad.add (i.toNat * 34)).block, (ad.add (i.toNat * 34)).off + 25, none⟩ = some (.bool (rd_T43 xs i).f2.f7) ∧ w.cell? ⟨(ad.add (i.toNat * 34)).block, (ad.add (i.toNat * 34)).off + 26, none⟩ = some (.bool (rd_T43 xs i).f2.f8) ∧ w.cell? ⟨(ad.add (i.toNat * 34)).block, (ad.add (i.toNat * 34)).off + 27, none⟩ = some (.int .i64 (rd_T43 xs i).f2.f9.f0) ∧ w.cell? ⟨(ad.add (i.toNat * 34)).block, (ad.add (i.toNat * 34)).off + 28, none⟩ = some (.int .i64 (rd_T43 xs i).f2.f9.f1) ∧ w.cell? ⟨(ad.add (i.toNat * 34)).block, (ad.add (i.toNat * 34)).off + 29, none⟩ = some (.bool (rd_T43 xs i).f2.f10) ∧ w.cell? ⟨(ad.add (i.toNat * 34)).block, (ad.add (i.toNat * 34)).off + 30, none⟩ = some (.bool (rd_T43 xs i).f2.f11) ∧ w.cell? ⟨(ad.add (i.toNat * 34)).block, (ad.add (i.toNat * 34)).off + 31, none⟩ = some (.slice A31 (rd_T43 xs i).f3.length c31) ∧ w.cell? ⟨(ad.add (i.toNat * 34)).block, (ad.add (i.toNat * 34)).off + 32, none⟩ = some (.int .i64 (rd_T43 xs i).f4) ∧ w.cell? ⟨(ad.add (i.toNat * 34)).block, (ad.add (i.toNat * 34)).off + 33, none⟩ = some (.int .i64 (rd_T43 xs i).f5) ∧ (rd_T43 xs i).f1.length ≤ c1 ∧ (Kd.int .i64).C w A1 (rd_T43 xs i).f1.length (rd_T43 xs i).f1 ∧ (rd_T43 xs i).f3.length ≤ c31 ∧ (Kd.int .i64).C w A31 (rd_T43 xs i).f3.length (rd_T43 xs i).f3 := by
  obtain ⟨ad, c, e, _, hK, hc0⟩ := Kd.C_get h z43 i h0 h1
  have hc : ∀ j u, c[j]? = some u → w.cell? (ad.add (i.toNat * 34 + j)) = some u := hc0
  obtain ⟨A1, c1, A31, c31, rfl, l1, g1, l31, g31⟩ := k43_open hK
  exact ⟨ad, A1, c1, A31, c31, e, hc 0 _ rfl, by rw [← add_field _ _ 1 (by omega)]; exact hc 1 _ rfl, by rw [← add_field _ _ 2 (by omega)]; exact hc 2 _ rfl, by rw [← add_field _ _ 3 (by omega)]; exact hc 3 _ rfl, by rw [← add_field _ _ 4 (by omega)]; exact hc 4 _ rfl, by rw [← add_field _ _ 5 (by omega)]; exact hc 5 _ rfl, by rw [← add_field _ _ 6 (by omega)]; exact hc 6 _ rfl, by rw [← add_field _ _ 7 (by omega)]; exact hc 7 _ rfl, by rw [← add_field _ _ 8 (by omega)]; exact hc 8 _ rfl, by rw [← add_field _ _ 9 (by omega)]; exact hc 9 _ rfl, by rw [← add_field _ _ 10 (by omega)]; exact hc 10 _ rfl, by rw [← add_field _ _ 11 (by omega)]; exact hc 11 _ rfl, by rw [← add_field _ _ 12 (by omega)]; exact hc 12 _ rfl, by rw [← add_field _ _ 13 (by omega)]; exact hc 13 _ rfl, by rw [← add_field _ _ 14 (by omega)]; exact hc 14 _ rfl, by rw [← add_field _ _ 15 (by omega)]; exact hc 15 _ rfl, by rw [← add_field _ _ 16 (by omega)]; exact hc 16 _ rfl, by rw [← add_field _ _ 17 (by omega)]; exact hc 17 _ rfl, by rw [← add_field _ _ 18 (by omega)]; exact hc 18 _ rfl, by rw [← add_field _ _ 19 (by omega)]; exact hc 19 _ rfl, by rw [← add_field _ _ 20 (by omega)]; exact hc 20 _ rfl, by rw [← add_field _ _ 21 (by omega)]; exact hc 21 _ rfl, by rw [← add_field _ _ 22 (by omega)]; exact hc 22 _ rfl, by rw [← add_field _ _ 23 (by omega)]; exact hc 23 _ rfl, by rw [← add_field _ _ 24 (by omega)]; exact hc 24 _ rfl, by rw [← add_field _ _ 25 (by omega)]; exact hc 25 _ rfl, by rw [← add_field _ _ 26 (by omega)]; exact hc 26 _ rfl, by rw [← add_field _ _ 27 (by omega)]; exact hc 27 _ rfl, by rw [← add_field _ _ 28 (by omega)]; exact hc 28 _ rfl, by rw [← add_field _ _ 29 (by omega)]; exact hc 29 _ rfl, by rw [← add_field _ _ 30 (by omega)]; exact hc 30 _ rfl, by rw [← add_field _ _ 31 (by omega)]; exact hc 31 _ rfl, by rw [← add_field _ _ 32 (by omega)]; exact hc 32 _ rfl, by rw [← add_field _ _ 33 (by omega)]; exact hc 33 _ rfl, l1, g1, l31, g31⟩

def rd_L12 (xs : List (List S43)) (i : Int) : (List S43) := xs.getD i.toNat ([] : List S43)
theorem at_L12 {w : World} {A : Option Addr} {n : Nat} {xs : List (List S43)} (h : Kd.C (Kd.slice 43 k43) w A n xs) (i : Int) (h0 : 0 ≤ i) (h1 : i < n) : ∃ ad A0 c0, A = some ad ∧ w.cell? (ad.add i.toNat) = some (.slice A0 (rd_L12 xs i).length c0) ∧ (rd_L12 xs i).length ≤ c0 ∧ k43.C w A0 (rd_L12 xs i).length (rd_L12 xs i) := by
  obtain ⟨ad, c, e, _, hK, hc0⟩ := Kd.C_get h ([] : List S43) i h0 h1
  have hc : ∀ j u, c[j]? = some u → w.cell? (ad.add (i.toNat * 1 + j)) = some u := hc0
  obtain ⟨A0, c0, rfl, l0, g0⟩ := hK
  exact ⟨ad, A0, c0, e, by have hq := hc 0 _ rfl; rwa [Nat.mul_one, Nat.add_zero] at hq, l0, g0⟩

theorem cell_set_map (w : World) (a : Addr) (v : Value) : (w.setCell a v).cell? a = (w.cell? a).map fun _ => v := by
  cases h : w.cell? a with
  | some u => rw [World.cell?_setCell_same w a v h]; rfl
  | none =>
    by_cases hb : ∃ u, (w.setCell a v).cell? a = some u
    · obtain ⟨u, hu⟩ := hb
      exfalso
      revert h hu
      simp only [World.setCell, World.cell?, Array.getElem?_modify, if_true]
      cases w.heap[a.block]? with
      | none => simp
      | some x =>
        cases x <;> simp
        intro h1 h2
        cases hs : a.spot <;> simp_all
    · cases h2 : (w.setCell a v).cell? a with
      | none => rfl
      | some u => exact absurd ⟨u, h2⟩ hb

end Go.Proofs.Ytjhpkikgajgdmaa.K
