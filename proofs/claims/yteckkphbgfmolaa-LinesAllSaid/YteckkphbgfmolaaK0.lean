-- PRINTED by print.py (a twelfth state) out of the translation. Not trusted: Lean checks it.
import Derived.Test.YteckkphbgfmolaaProg
import Derived.Below
import Derived.Deep.Draws
import Derived.Deep.AppendLies
import Derived.Maps.AppendAt
import Derived.OwnWalk
import Derived.Laws.BytesArg
import Derived.Laws.MakeOwn
import Derived.Laws.OwnMore
import Derived.Deep.OwnRows
import Derived.Tactics
import Derived.Lib.ConvBytes
import Derived.Laws.Slices
import Derived.WalkKit
import Derived.KernelRfl
import Derived.RowKit3
import Derived.Deep.LoopGhost
import Derived.Deep.QuietTactic
import Derived.BigQuiet
import Derived.WideLaws
import Derived.Deep.DeepCutAuto
import Derived.Deep.CutBlock
import Derived.Deep.RegionHeld3
import Derived.Laws.Rows
import Derived.Lib.AppendStr
import Derived.ArgAppend
import Derived.Laws.IdiomCopy
import Derived.OrdersHeld
import Derived.Laws.BitsLemmas
import Derived.RowKit
import Derived.Test.YteckkphbgfmolaaWWords
import Derived.Test.YteckkphbgfmolaaWLast
import Derived.Test.YteckkphbgfmolaaWTab
import Derived.Test.YteckkphbgfmolaaWFour
import Derived.Test.YteckkphbgfmolaaWQPut
import Derived.Test.YteckkphbgfmolaaWApart
import Derived.Test.YteckkphbgfmolaaWArr
import Derived.Test.YteckkphbgfmolaaWZeros
import Derived.Test.YteckkphbgfmolaaWFoot
import Derived.Test.YteckkphbgfmolaaWKept
import Derived.Test.YteckkphbgfmolaaWShare
import Derived.Test.YteckkphbgfmolaaWN
import Derived.Test.YteckkphbgfmolaaWFootNe
import Derived.Test.YteckkphbgfmolaaWAt
import Derived.Test.YteckkphbgfmolaaWEqStruct
import Derived.Test.YteckkphbgfmolaaWRepsOne
import Derived.Test.YteckkphbgfmolaaWInv
import Derived.Test.YteckkphbgfmolaaWInvWords
import Derived.Test.YteckkphbgfmolaaWGuard
import Derived.Test.YteckkphbgfmolaaWNEv
import Derived.Test.YteckkphbgfmolaaWMore
namespace Go.Proofs.Yteckkphbgfmolaa.K
open Go.RowKit Go.Proofs.YteckkphbgfmolaaW.PrintWords Go.Proofs.YteckkphbgfmolaaW.PrintLast Go.Proofs.YteckkphbgfmolaaW.PrintMore
attribute [local go_sem] max2_int min2_int max_two min_two max_three min_three max_four min_four   -- for this text's walks alone
set_option linter.unusedVariables false
set_option linter.unusedSimpArgs false



def errW : Option Int → Value
  | none => .nilIface
  | some c => .iface 0 (.int .i64 c)
theorem errW_none : errW none = .nilIface := rfl
theorem errW_some (c : Int) : errW (some c) = .iface 0 (.int .i64 c) := rfl

theorem info2 : (Try.prog.info? 2).map (fun i => (i.zero, i.size, i.bytes)) = some (some (.int .i64 0), 1, 8) := by kernel_rfl
-- the values' own types
/-! #### struct type 57 -/
structure S57 where
  f0 : Int
  f1 : Int
def z57 : S57 := ⟨(0 : Int), (0 : Int)⟩
def k57 : Kd S57 := Kd.iso (Kd.pair (Kd.int .i64) (Kd.int .i64)) (fun x : S57 => (x.f0, x.f1))
theorem k57_open {w : World} {x : S57} {cs : List Value} (h : k57.K w x cs) : cs = [.int .i64 x.f0, .int .i64 x.f1] := by
  obtain ⟨_, _, rfl, rfl, rfl⟩ := h
  exact rfl
theorem k57_openM {w : World} {base : Nat} {ok : Nat → Prop} {x : S57} {cs : List Value} (h : k57.M w base ok x cs) : cs = [.int .i64 x.f0, .int .i64 x.f1] := by
  obtain ⟨_, _, rfl, rfl, rfl⟩ := h
  exact rfl
theorem k57_mk (w : World) (x : S57)  : k57.K w x [.int .i64 x.f0, .int .i64 x.f1] := ⟨[.int .i64 x.f0], [.int .i64 x.f1], rfl, rfl, rfl⟩
theorem k57_mkM (w : World) (base : Nat) (ok : Nat → Prop) (x : S57)  : k57.M w base ok x [.int .i64 x.f0, .int .i64 x.f1] := ⟨[.int .i64 x.f0], [.int .i64 x.f1], rfl, rfl, rfl⟩
def rd_T57 (xs : List S57) (i : Int) : S57 := xs.getD i.toNat z57
theorem at_T57 {w : World} {A : Option Addr} {n : Nat} {xs : List S57} (h : Kd.C k57 w A n xs) (i : Int) (h0 : 0 ≤ i) (h1 : i < n) : ∃ ad , A = some ad ∧ w.cell? (ad.add (i.toNat * 2)) = some (.int .i64 (rd_T57 xs i).f0) ∧ w.cell? ⟨(ad.add (i.toNat * 2)).block, (ad.add (i.toNat * 2)).off + 1, none⟩ = some (.int .i64 (rd_T57 xs i).f1) := by
  obtain ⟨ad, c, e, _, hK, hc0⟩ := Kd.C_get h z57 i h0 h1
  have hc : ∀ j u, c[j]? = some u → w.cell? (ad.add (i.toNat * 2 + j)) = some u := hc0
  obtain rfl := k57_open hK
  exact ⟨ad, e, hc 0 _ rfl, by rw [← add_field _ _ 1 (by omega)]; exact hc 1 _ rfl⟩

def rd_L2 (xs : List (List S57)) (i : Int) : (List S57) := xs.getD i.toNat ([] : List S57)
theorem at_L2 {w : World} {A : Option Addr} {n : Nat} {xs : List (List S57)} (h : Kd.C (Kd.slice 57 k57) w A n xs) (i : Int) (h0 : 0 ≤ i) (h1 : i < n) : ∃ ad A0 c0, A = some ad ∧ w.cell? (ad.add i.toNat) = some (.slice A0 (rd_L2 xs i).length c0) ∧ (rd_L2 xs i).length ≤ c0 ∧ k57.C w A0 (rd_L2 xs i).length (rd_L2 xs i) := by
  obtain ⟨ad, c, e, _, hK, hc0⟩ := Kd.C_get h ([] : List S57) i h0 h1
  have hc : ∀ j u, c[j]? = some u → w.cell? (ad.add (i.toNat * 1 + j)) = some u := hc0
  obtain ⟨A0, c0, rfl, l0, g0⟩ := hK
  exact ⟨ad, A0, c0, e, by have hq := hc 0 _ rfl; rwa [Nat.mul_one, Nat.add_zero] at hq, l0, g0⟩

def rd_L3 (xs : List (List Int)) (i : Int) : (List Int) := xs.getD i.toNat ([] : List Int)
theorem at_L3 {w : World} {A : Option Addr} {n : Nat} {xs : List (List Int)} (h : Kd.C (Kd.slice 3 (Kd.int .i64)) w A n xs) (i : Int) (h0 : 0 ≤ i) (h1 : i < n) : ∃ ad A0 c0, A = some ad ∧ w.cell? (ad.add i.toNat) = some (.slice A0 (rd_L3 xs i).length c0) ∧ (rd_L3 xs i).length ≤ c0 ∧ (Kd.int .i64).C w A0 (rd_L3 xs i).length (rd_L3 xs i) := by
  obtain ⟨ad, c, e, _, hK, hc0⟩ := Kd.C_get h ([] : List Int) i h0 h1
  have hc : ∀ j u, c[j]? = some u → w.cell? (ad.add (i.toNat * 1 + j)) = some u := hc0
  obtain ⟨A0, c0, rfl, l0, g0⟩ := hK
  exact ⟨ad, A0, c0, e, by have hq := hc 0 _ rfl; rwa [Nat.mul_one, Nat.add_zero] at hq, l0, g0⟩

/-! #### struct type 24 -/
structure S24 where
  f0 : Int
  f1 : Int
def z24 : S24 := ⟨(0 : Int), (0 : Int)⟩
def k24 : Kd S24 := Kd.iso (Kd.pair (Kd.int .i64) (Kd.int .i64)) (fun x : S24 => (x.f0, x.f1))
theorem k24_open {w : World} {x : S24} {cs : List Value} (h : k24.K w x cs) : cs = [.int .i64 x.f0, .int .i64 x.f1] := by
  obtain ⟨_, _, rfl, rfl, rfl⟩ := h
  exact rfl
theorem k24_openM {w : World} {base : Nat} {ok : Nat → Prop} {x : S24} {cs : List Value} (h : k24.M w base ok x cs) : cs = [.int .i64 x.f0, .int .i64 x.f1] := by
  obtain ⟨_, _, rfl, rfl, rfl⟩ := h
  exact rfl
theorem k24_mk (w : World) (x : S24)  : k24.K w x [.int .i64 x.f0, .int .i64 x.f1] := ⟨[.int .i64 x.f0], [.int .i64 x.f1], rfl, rfl, rfl⟩
theorem k24_mkM (w : World) (base : Nat) (ok : Nat → Prop) (x : S24)  : k24.M w base ok x [.int .i64 x.f0, .int .i64 x.f1] := ⟨[.int .i64 x.f0], [.int .i64 x.f1], rfl, rfl, rfl⟩
def rd_T24 (xs : List S24) (i : Int) : S24 := xs.getD i.toNat z24
theorem at_T24 {w : World} {A : Option Addr} {n : Nat} {xs : List S24} (h : Kd.C k24 w A n xs) (i : Int) (h0 : 0 ≤ i) (h1 : i < n) : ∃ ad , A = some ad ∧ w.cell? (ad.add (i.toNat * 2)) = some (.int .i64 (rd_T24 xs i).f0) ∧ w.cell? ⟨(ad.add (i.toNat * 2)).block, (ad.add (i.toNat * 2)).off + 1, none⟩ = some (.int .i64 (rd_T24 xs i).f1) := by
  obtain ⟨ad, c, e, _, hK, hc0⟩ := Kd.C_get h z24 i h0 h1
  have hc : ∀ j u, c[j]? = some u → w.cell? (ad.add (i.toNat * 2 + j)) = some u := hc0
  obtain rfl := k24_open hK
  exact ⟨ad, e, hc 0 _ rfl, by rw [← add_field _ _ 1 (by omega)]; exact hc 1 _ rfl⟩

/-! #### struct type 25 -/
structure S25 where
  f0 : Int
  f1 : Int
  f2 : Int
  f3 : Int
def z25 : S25 := ⟨(0 : Int), (0 : Int), (0 : Int), (0 : Int)⟩
def k25 : Kd S25 := Kd.iso (Kd.pair (Kd.int .i64) (Kd.pair (Kd.int .i64) (Kd.pair (Kd.int .i64) (Kd.int .i64)))) (fun x : S25 => (x.f0, x.f1, x.f2, x.f3))
theorem k25_open {w : World} {x : S25} {cs : List Value} (h : k25.K w x cs) : cs = [.int .i64 x.f0, .int .i64 x.f1, .int .i64 x.f2, .int .i64 x.f3] := by
  obtain ⟨_, _, rfl, rfl, ⟨_, _, rfl, rfl, ⟨_, _, rfl, rfl, rfl⟩⟩⟩ := h
  exact rfl
theorem k25_openM {w : World} {base : Nat} {ok : Nat → Prop} {x : S25} {cs : List Value} (h : k25.M w base ok x cs) : cs = [.int .i64 x.f0, .int .i64 x.f1, .int .i64 x.f2, .int .i64 x.f3] := by
  obtain ⟨_, _, rfl, rfl, ⟨_, _, rfl, rfl, ⟨_, _, rfl, rfl, rfl⟩⟩⟩ := h
  exact rfl
theorem k25_mk (w : World) (x : S25)  : k25.K w x [.int .i64 x.f0, .int .i64 x.f1, .int .i64 x.f2, .int .i64 x.f3] := ⟨[.int .i64 x.f0], [.int .i64 x.f1, .int .i64 x.f2, .int .i64 x.f3], rfl, rfl, ⟨[.int .i64 x.f1], [.int .i64 x.f2, .int .i64 x.f3], rfl, rfl, ⟨[.int .i64 x.f2], [.int .i64 x.f3], rfl, rfl, rfl⟩⟩⟩
theorem k25_mkM (w : World) (base : Nat) (ok : Nat → Prop) (x : S25)  : k25.M w base ok x [.int .i64 x.f0, .int .i64 x.f1, .int .i64 x.f2, .int .i64 x.f3] := ⟨[.int .i64 x.f0], [.int .i64 x.f1, .int .i64 x.f2, .int .i64 x.f3], rfl, rfl, ⟨[.int .i64 x.f1], [.int .i64 x.f2, .int .i64 x.f3], rfl, rfl, ⟨[.int .i64 x.f2], [.int .i64 x.f3], rfl, rfl, rfl⟩⟩⟩
def rd_T25 (xs : List S25) (i : Int) : S25 := xs.getD i.toNat z25
theorem at_T25 {w : World} {A : Option Addr} {n : Nat} {xs : List S25} (h : Kd.C k25 w A n xs) (i : Int) (h0 : 0 ≤ i) (h1 : i < n) : ∃ ad , A = some ad ∧ w.cell? (ad.add (i.toNat * 4)) = some (.int .i64 (rd_T25 xs i).f0) ∧ w.cell? ⟨(ad.add (i.toNat * 4)).block, (ad.add (i.toNat * 4)).off + 1, none⟩ = some (.int .i64 (rd_T25 xs i).f1) ∧ w.cell? ⟨(ad.add (i.toNat * 4)).block, (ad.add (i.toNat * 4)).off + 2, none⟩ = some (.int .i64 (rd_T25 xs i).f2) ∧ w.cell? ⟨(ad.add (i.toNat * 4)).block, (ad.add (i.toNat * 4)).off + 3, none⟩ = some (.int .i64 (rd_T25 xs i).f3) := by
  obtain ⟨ad, c, e, _, hK, hc0⟩ := Kd.C_get h z25 i h0 h1
  have hc : ∀ j u, c[j]? = some u → w.cell? (ad.add (i.toNat * 4 + j)) = some u := hc0
  obtain rfl := k25_open hK
  exact ⟨ad, e, hc 0 _ rfl, by rw [← add_field _ _ 1 (by omega)]; exact hc 1 _ rfl, by rw [← add_field _ _ 2 (by omega)]; exact hc 2 _ rfl, by rw [← add_field _ _ 3 (by omega)]; exact hc 3 _ rfl⟩

/-! #### struct type 28 -/
structure S28 where
  f0 : Int
  f1 : Int
  f2 : Int
def z28 : S28 := ⟨(0 : Int), (0 : Int), (0 : Int)⟩
def k28 : Kd S28 := Kd.iso (Kd.pair (Kd.int .i64) (Kd.pair (Kd.int .i64) (Kd.int .u32))) (fun x : S28 => (x.f0, x.f1, x.f2))
theorem k28_open {w : World} {x : S28} {cs : List Value} (h : k28.K w x cs) : cs = [.int .i64 x.f0, .int .i64 x.f1, .int .u32 x.f2] := by
  obtain ⟨_, _, rfl, rfl, ⟨_, _, rfl, rfl, rfl⟩⟩ := h
  exact rfl
theorem k28_openM {w : World} {base : Nat} {ok : Nat → Prop} {x : S28} {cs : List Value} (h : k28.M w base ok x cs) : cs = [.int .i64 x.f0, .int .i64 x.f1, .int .u32 x.f2] := by
  obtain ⟨_, _, rfl, rfl, ⟨_, _, rfl, rfl, rfl⟩⟩ := h
  exact rfl
theorem k28_mk (w : World) (x : S28)  : k28.K w x [.int .i64 x.f0, .int .i64 x.f1, .int .u32 x.f2] := ⟨[.int .i64 x.f0], [.int .i64 x.f1, .int .u32 x.f2], rfl, rfl, ⟨[.int .i64 x.f1], [.int .u32 x.f2], rfl, rfl, rfl⟩⟩
theorem k28_mkM (w : World) (base : Nat) (ok : Nat → Prop) (x : S28)  : k28.M w base ok x [.int .i64 x.f0, .int .i64 x.f1, .int .u32 x.f2] := ⟨[.int .i64 x.f0], [.int .i64 x.f1, .int .u32 x.f2], rfl, rfl, ⟨[.int .i64 x.f1], [.int .u32 x.f2], rfl, rfl, rfl⟩⟩
def rd_T28 (xs : List S28) (i : Int) : S28 := xs.getD i.toNat z28
theorem at_T28 {w : World} {A : Option Addr} {n : Nat} {xs : List S28} (h : Kd.C k28 w A n xs) (i : Int) (h0 : 0 ≤ i) (h1 : i < n) : ∃ ad , A = some ad ∧ w.cell? (ad.add (i.toNat * 3)) = some (.int .i64 (rd_T28 xs i).f0) ∧ w.cell? ⟨(ad.add (i.toNat * 3)).block, (ad.add (i.toNat * 3)).off + 1, none⟩ = some (.int .i64 (rd_T28 xs i).f1) ∧ w.cell? ⟨(ad.add (i.toNat * 3)).block, (ad.add (i.toNat * 3)).off + 2, none⟩ = some (.int .u32 (rd_T28 xs i).f2) := by
  obtain ⟨ad, c, e, _, hK, hc0⟩ := Kd.C_get h z28 i h0 h1
  have hc : ∀ j u, c[j]? = some u → w.cell? (ad.add (i.toNat * 3 + j)) = some u := hc0
  obtain rfl := k28_open hK
  exact ⟨ad, e, hc 0 _ rfl, by rw [← add_field _ _ 1 (by omega)]; exact hc 1 _ rfl, by rw [← add_field _ _ 2 (by omega)]; exact hc 2 _ rfl⟩

/-! #### struct type 29 -/
structure S29 where
  f0 : S28
  f1 : S28
  f2 : S28
  f3 : S28
def z29 : S29 := ⟨z28, z28, z28, z28⟩
def k29 : Kd S29 := Kd.iso (Kd.pair k28 (Kd.pair k28 (Kd.pair k28 k28))) (fun x : S29 => (x.f0, x.f1, x.f2, x.f3))
theorem k29_open {w : World} {x : S29} {cs : List Value} (h : k29.K w x cs) : cs = [.int .i64 x.f0.f0, .int .i64 x.f0.f1, .int .u32 x.f0.f2, .int .i64 x.f1.f0, .int .i64 x.f1.f1, .int .u32 x.f1.f2, .int .i64 x.f2.f0, .int .i64 x.f2.f1, .int .u32 x.f2.f2, .int .i64 x.f3.f0, .int .i64 x.f3.f1, .int .u32 x.f3.f2] := by
  obtain ⟨_, _, rfl, s0, ⟨_, _, rfl, s3, ⟨_, _, rfl, s6, s9⟩⟩⟩ := h
  obtain rfl := k28_open s0
  obtain rfl := k28_open s3
  obtain rfl := k28_open s6
  obtain rfl := k28_open s9
  exact rfl
theorem k29_openM {w : World} {base : Nat} {ok : Nat → Prop} {x : S29} {cs : List Value} (h : k29.M w base ok x cs) : cs = [.int .i64 x.f0.f0, .int .i64 x.f0.f1, .int .u32 x.f0.f2, .int .i64 x.f1.f0, .int .i64 x.f1.f1, .int .u32 x.f1.f2, .int .i64 x.f2.f0, .int .i64 x.f2.f1, .int .u32 x.f2.f2, .int .i64 x.f3.f0, .int .i64 x.f3.f1, .int .u32 x.f3.f2] := by
  obtain ⟨_, _, rfl, s0, ⟨_, _, rfl, s3, ⟨_, _, rfl, s6, s9⟩⟩⟩ := h
  obtain rfl := k28_openM s0
  obtain rfl := k28_openM s3
  obtain rfl := k28_openM s6
  obtain rfl := k28_openM s9
  exact rfl
theorem k29_mk (w : World) (x : S29)  : k29.K w x [.int .i64 x.f0.f0, .int .i64 x.f0.f1, .int .u32 x.f0.f2, .int .i64 x.f1.f0, .int .i64 x.f1.f1, .int .u32 x.f1.f2, .int .i64 x.f2.f0, .int .i64 x.f2.f1, .int .u32 x.f2.f2, .int .i64 x.f3.f0, .int .i64 x.f3.f1, .int .u32 x.f3.f2] := ⟨[.int .i64 x.f0.f0, .int .i64 x.f0.f1, .int .u32 x.f0.f2], [.int .i64 x.f1.f0, .int .i64 x.f1.f1, .int .u32 x.f1.f2, .int .i64 x.f2.f0, .int .i64 x.f2.f1, .int .u32 x.f2.f2, .int .i64 x.f3.f0, .int .i64 x.f3.f1, .int .u32 x.f3.f2], rfl, (k28_mk w x.f0 ), ⟨[.int .i64 x.f1.f0, .int .i64 x.f1.f1, .int .u32 x.f1.f2], [.int .i64 x.f2.f0, .int .i64 x.f2.f1, .int .u32 x.f2.f2, .int .i64 x.f3.f0, .int .i64 x.f3.f1, .int .u32 x.f3.f2], rfl, (k28_mk w x.f1 ), ⟨[.int .i64 x.f2.f0, .int .i64 x.f2.f1, .int .u32 x.f2.f2], [.int .i64 x.f3.f0, .int .i64 x.f3.f1, .int .u32 x.f3.f2], rfl, (k28_mk w x.f2 ), (k28_mk w x.f3 )⟩⟩⟩
theorem k29_mkM (w : World) (base : Nat) (ok : Nat → Prop) (x : S29)  : k29.M w base ok x [.int .i64 x.f0.f0, .int .i64 x.f0.f1, .int .u32 x.f0.f2, .int .i64 x.f1.f0, .int .i64 x.f1.f1, .int .u32 x.f1.f2, .int .i64 x.f2.f0, .int .i64 x.f2.f1, .int .u32 x.f2.f2, .int .i64 x.f3.f0, .int .i64 x.f3.f1, .int .u32 x.f3.f2] := ⟨[.int .i64 x.f0.f0, .int .i64 x.f0.f1, .int .u32 x.f0.f2], [.int .i64 x.f1.f0, .int .i64 x.f1.f1, .int .u32 x.f1.f2, .int .i64 x.f2.f0, .int .i64 x.f2.f1, .int .u32 x.f2.f2, .int .i64 x.f3.f0, .int .i64 x.f3.f1, .int .u32 x.f3.f2], rfl, (k28_mkM w base ok x.f0 ), ⟨[.int .i64 x.f1.f0, .int .i64 x.f1.f1, .int .u32 x.f1.f2], [.int .i64 x.f2.f0, .int .i64 x.f2.f1, .int .u32 x.f2.f2, .int .i64 x.f3.f0, .int .i64 x.f3.f1, .int .u32 x.f3.f2], rfl, (k28_mkM w base ok x.f1 ), ⟨[.int .i64 x.f2.f0, .int .i64 x.f2.f1, .int .u32 x.f2.f2], [.int .i64 x.f3.f0, .int .i64 x.f3.f1, .int .u32 x.f3.f2], rfl, (k28_mkM w base ok x.f2 ), (k28_mkM w base ok x.f3 )⟩⟩⟩
def rd_T29 (xs : List S29) (i : Int) : S29 := xs.getD i.toNat z29
theorem at_T29 {w : World} {A : Option Addr} {n : Nat} {xs : List S29} (h : Kd.C k29 w A n xs) (i : Int) (h0 : 0 ≤ i) (h1 : i < n) : ∃ ad , A = some ad ∧ w.cell? (ad.add (i.toNat * 12)) = some (.int .i64 (rd_T29 xs i).f0.f0) ∧ w.cell? ⟨(ad.add (i.toNat * 12)).block, (ad.add (i.toNat * 12)).off + 1, none⟩ = some (.int .i64 (rd_T29 xs i).f0.f1) ∧ w.cell? ⟨(ad.add (i.toNat * 12)).block, (ad.add (i.toNat * 12)).off + 2, none⟩ = some (.int .u32 (rd_T29 xs i).f0.f2) ∧ w.cell? ⟨(ad.add (i.toNat * 12)).block, (ad.add (i.toNat * 12)).off + 3, none⟩ = some (.int .i64 (rd_T29 xs i).f1.f0) ∧ w.cell? ⟨(ad.add (i.toNat * 12)).block, (ad.add (i.toNat * 12)).off + 4, none⟩ = some (.int .i64 (rd_T29 xs i).f1.f1) ∧ w.cell? ⟨(ad.add (i.toNat * 12)).block, (ad.add (i.toNat * 12)).off + 5, none⟩ = some (.int .u32 (rd_T29 xs i).f1.f2) ∧ w.cell? ⟨(ad.add (i.toNat * 12)).block, (ad.add (i.toNat * 12)).off + 6, none⟩ = some (.int .i64 (rd_T29 xs i).f2.f0) ∧ w.cell? ⟨(ad.add (i.toNat * 12)).block, (ad.add (i.toNat * 12)).off + 7, none⟩ = some (.int .i64 (rd_T29 xs i).f2.f1) ∧ w.cell? ⟨(ad.add (i.toNat * 12)).block, (ad.add (i.toNat * 12)).off + 8, none⟩ = some (.int .u32 (rd_T29 xs i).f2.f2) ∧ w.cell? ⟨(ad.add (i.toNat * 12)).block, (ad.add (i.toNat * 12)).off + 9, none⟩ = some (.int .i64 (rd_T29 xs i).f3.f0) ∧ w.cell? ⟨(ad.add (i.toNat * 12)).block, (ad.add (i.toNat * 12)).off + 10, none⟩ = some (.int .i64 (rd_T29 xs i).f3.f1) ∧ w.cell? ⟨(ad.add (i.toNat * 12)).block, (ad.add (i.toNat * 12)).off + 11, none⟩ = some (.int .u32 (rd_T29 xs i).f3.f2) := by
  obtain ⟨ad, c, e, _, hK, hc0⟩ := Kd.C_get h z29 i h0 h1
  have hc : ∀ j u, c[j]? = some u → w.cell? (ad.add (i.toNat * 12 + j)) = some u := hc0
  obtain rfl := k29_open hK
  exact ⟨ad, e, hc 0 _ rfl, by rw [← add_field _ _ 1 (by omega)]; exact hc 1 _ rfl, by rw [← add_field _ _ 2 (by omega)]; exact hc 2 _ rfl, by rw [← add_field _ _ 3 (by omega)]; exact hc 3 _ rfl, by rw [← add_field _ _ 4 (by omega)]; exact hc 4 _ rfl, by rw [← add_field _ _ 5 (by omega)]; exact hc 5 _ rfl, by rw [← add_field _ _ 6 (by omega)]; exact hc 6 _ rfl, by rw [← add_field _ _ 7 (by omega)]; exact hc 7 _ rfl, by rw [← add_field _ _ 8 (by omega)]; exact hc 8 _ rfl, by rw [← add_field _ _ 9 (by omega)]; exact hc 9 _ rfl, by rw [← add_field _ _ 10 (by omega)]; exact hc 10 _ rfl, by rw [← add_field _ _ 11 (by omega)]; exact hc 11 _ rfl⟩

/-! #### struct type 30 -/
structure S30 where
  f0 : Int
  f1 : Int
def z30 : S30 := ⟨(0 : Int), (0 : Int)⟩
def k30 : Kd S30 := Kd.iso (Kd.pair (Kd.int .i64) (Kd.int .i64)) (fun x : S30 => (x.f0, x.f1))
theorem k30_open {w : World} {x : S30} {cs : List Value} (h : k30.K w x cs) : cs = [.int .i64 x.f0, .int .i64 x.f1] := by
  obtain ⟨_, _, rfl, rfl, rfl⟩ := h
  exact rfl
theorem k30_openM {w : World} {base : Nat} {ok : Nat → Prop} {x : S30} {cs : List Value} (h : k30.M w base ok x cs) : cs = [.int .i64 x.f0, .int .i64 x.f1] := by
  obtain ⟨_, _, rfl, rfl, rfl⟩ := h
  exact rfl
theorem k30_mk (w : World) (x : S30)  : k30.K w x [.int .i64 x.f0, .int .i64 x.f1] := ⟨[.int .i64 x.f0], [.int .i64 x.f1], rfl, rfl, rfl⟩
theorem k30_mkM (w : World) (base : Nat) (ok : Nat → Prop) (x : S30)  : k30.M w base ok x [.int .i64 x.f0, .int .i64 x.f1] := ⟨[.int .i64 x.f0], [.int .i64 x.f1], rfl, rfl, rfl⟩
def rd_T30 (xs : List S30) (i : Int) : S30 := xs.getD i.toNat z30
theorem at_T30 {w : World} {A : Option Addr} {n : Nat} {xs : List S30} (h : Kd.C k30 w A n xs) (i : Int) (h0 : 0 ≤ i) (h1 : i < n) : ∃ ad , A = some ad ∧ w.cell? (ad.add (i.toNat * 2)) = some (.int .i64 (rd_T30 xs i).f0) ∧ w.cell? ⟨(ad.add (i.toNat * 2)).block, (ad.add (i.toNat * 2)).off + 1, none⟩ = some (.int .i64 (rd_T30 xs i).f1) := by
  obtain ⟨ad, c, e, _, hK, hc0⟩ := Kd.C_get h z30 i h0 h1
  have hc : ∀ j u, c[j]? = some u → w.cell? (ad.add (i.toNat * 2 + j)) = some u := hc0
  obtain rfl := k30_open hK
  exact ⟨ad, e, hc 0 _ rfl, by rw [← add_field _ _ 1 (by omega)]; exact hc 1 _ rfl⟩

/-! #### struct type 32 -/
structure S32 where
  f0 : S24
  f1 : S24
  f2 : S25
  f3 : S29
  f4 : Int
  f5 : Int
  f6 : Int
  f7 : Bool
  f8 : Bool
  f9 : S30
  f10 : Bool
  f11 : Bool
def z32 : S32 := ⟨z24, z24, z25, z29, (0 : Int), (0 : Int), (0 : Int), false, false, z30, false, false⟩
def k32 : Kd S32 := Kd.iso (Kd.pair k24 (Kd.pair k24 (Kd.pair k25 (Kd.pair k29 (Kd.pair (Kd.int .i64) (Kd.pair (Kd.int .i64) (Kd.pair (Kd.int .i64) (Kd.pair Kd.bool (Kd.pair Kd.bool (Kd.pair k30 (Kd.pair Kd.bool Kd.bool))))))))))) (fun x : S32 => (x.f0, x.f1, x.f2, x.f3, x.f4, x.f5, x.f6, x.f7, x.f8, x.f9, x.f10, x.f11))
theorem k32_open {w : World} {x : S32} {cs : List Value} (h : k32.K w x cs) : cs = [.int .i64 x.f0.f0, .int .i64 x.f0.f1, .int .i64 x.f1.f0, .int .i64 x.f1.f1, .int .i64 x.f2.f0, .int .i64 x.f2.f1, .int .i64 x.f2.f2, .int .i64 x.f2.f3, .int .i64 x.f3.f0.f0, .int .i64 x.f3.f0.f1, .int .u32 x.f3.f0.f2, .int .i64 x.f3.f1.f0, .int .i64 x.f3.f1.f1, .int .u32 x.f3.f1.f2, .int .i64 x.f3.f2.f0, .int .i64 x.f3.f2.f1, .int .u32 x.f3.f2.f2, .int .i64 x.f3.f3.f0, .int .i64 x.f3.f3.f1, .int .u32 x.f3.f3.f2, .int .i64 x.f4, .int .i64 x.f5, .int .i64 x.f6, .bool x.f7, .bool x.f8, .int .i64 x.f9.f0, .int .i64 x.f9.f1, .bool x.f10, .bool x.f11] := by
  obtain ⟨_, _, rfl, s0, ⟨_, _, rfl, s2, ⟨_, _, rfl, s4, ⟨_, _, rfl, s8, ⟨_, _, rfl, rfl, ⟨_, _, rfl, rfl, ⟨_, _, rfl, rfl, ⟨_, _, rfl, rfl, ⟨_, _, rfl, rfl, ⟨_, _, rfl, s25, ⟨_, _, rfl, rfl, rfl⟩⟩⟩⟩⟩⟩⟩⟩⟩⟩⟩ := h
  obtain rfl := k24_open s0
  obtain rfl := k24_open s2
  obtain rfl := k25_open s4
  obtain rfl := k29_open s8
  obtain rfl := k30_open s25
  exact rfl
theorem k32_openM {w : World} {base : Nat} {ok : Nat → Prop} {x : S32} {cs : List Value} (h : k32.M w base ok x cs) : cs = [.int .i64 x.f0.f0, .int .i64 x.f0.f1, .int .i64 x.f1.f0, .int .i64 x.f1.f1, .int .i64 x.f2.f0, .int .i64 x.f2.f1, .int .i64 x.f2.f2, .int .i64 x.f2.f3, .int .i64 x.f3.f0.f0, .int .i64 x.f3.f0.f1, .int .u32 x.f3.f0.f2, .int .i64 x.f3.f1.f0, .int .i64 x.f3.f1.f1, .int .u32 x.f3.f1.f2, .int .i64 x.f3.f2.f0, .int .i64 x.f3.f2.f1, .int .u32 x.f3.f2.f2, .int .i64 x.f3.f3.f0, .int .i64 x.f3.f3.f1, .int .u32 x.f3.f3.f2, .int .i64 x.f4, .int .i64 x.f5, .int .i64 x.f6, .bool x.f7, .bool x.f8, .int .i64 x.f9.f0, .int .i64 x.f9.f1, .bool x.f10, .bool x.f11] := by
  obtain ⟨_, _, rfl, s0, ⟨_, _, rfl, s2, ⟨_, _, rfl, s4, ⟨_, _, rfl, s8, ⟨_, _, rfl, rfl, ⟨_, _, rfl, rfl, ⟨_, _, rfl, rfl, ⟨_, _, rfl, rfl, ⟨_, _, rfl, rfl, ⟨_, _, rfl, s25, ⟨_, _, rfl, rfl, rfl⟩⟩⟩⟩⟩⟩⟩⟩⟩⟩⟩ := h
  obtain rfl := k24_openM s0
  obtain rfl := k24_openM s2
  obtain rfl := k25_openM s4
  obtain rfl := k29_openM s8
  obtain rfl := k30_openM s25
  exact rfl
theorem k32_mk (w : World) (x : S32)  : k32.K w x [.int .i64 x.f0.f0, .int .i64 x.f0.f1, .int .i64 x.f1.f0, .int .i64 x.f1.f1, .int .i64 x.f2.f0, .int .i64 x.f2.f1, .int .i64 x.f2.f2, .int .i64 x.f2.f3, .int .i64 x.f3.f0.f0, .int .i64 x.f3.f0.f1, .int .u32 x.f3.f0.f2, .int .i64 x.f3.f1.f0, .int .i64 x.f3.f1.f1, .int .u32 x.f3.f1.f2, .int .i64 x.f3.f2.f0, .int .i64 x.f3.f2.f1, .int .u32 x.f3.f2.f2, .int .i64 x.f3.f3.f0, .int .i64 x.f3.f3.f1, .int .u32 x.f3.f3.f2, .int .i64 x.f4, .int .i64 x.f5, .int .i64 x.f6, .bool x.f7, .bool x.f8, .int .i64 x.f9.f0, .int .i64 x.f9.f1, .bool x.f10, .bool x.f11] := ⟨[.int .i64 x.f0.f0, .int .i64 x.f0.f1], [.int .i64 x.f1.f0, .int .i64 x.f1.f1, .int .i64 x.f2.f0, .int .i64 x.f2.f1, .int .i64 x.f2.f2, .int .i64 x.f2.f3, .int .i64 x.f3.f0.f0, .int .i64 x.f3.f0.f1, .int .u32 x.f3.f0.f2, .int .i64 x.f3.f1.f0, .int .i64 x.f3.f1.f1, .int .u32 x.f3.f1.f2, .int .i64 x.f3.f2.f0, .int .i64 x.f3.f2.f1, .int .u32 x.f3.f2.f2, .int .i64 x.f3.f3.f0, .int .i64 x.f3.f3.f1, .int .u32 x.f3.f3.f2, .int .i64 x.f4, .int .i64 x.f5, .int .i64 x.f6, .bool x.f7, .bool x.f8, .int .i64 x.f9.f0, .int .i64 x.f9.f1, .bool x.f10, .bool x.f11], rfl, (k24_mk w x.f0 ), ⟨[.int .i64 x.f1.f0, .int .i64 x.f1.f1], [.int .i64 x.f2.f0, .int .i64 x.f2.f1, .int .i64 x.f2.f2, .int .i64 x.f2.f3, .int .i64 x.f3.f0.f0, .int .i64 x.f3.f0.f1, .int .u32 x.f3.f0.f2, .int .i64 x.f3.f1.f0, .int .i64 x.f3.f1.f1, .int .u32 x.f3.f1.f2, .int .i64 x.f3.f2.f0, .int .i64 x.f3.f2.f1, .int .u32 x.f3.f2.f2, .int .i64 x.f3.f3.f0, .int .i64 x.f3.f3.f1, .int .u32 x.f3.f3.f2, .int .i64 x.f4, .int .i64 x.f5, .int .i64 x.f6, .bool x.f7, .bool x.f8, .int .i64 x.f9.f0, .int .i64 x.f9.f1, .bool x.f10, .bool x.f11], rfl, (k24_mk w x.f1 ), ⟨[.int .i64 x.f2.f0, .int .i64 x.f2.f1, .int .i64 x.f2.f2, .int .i64 x.f2.f3], [.int .i64 x.f3.f0.f0, .int .i64 x.f3.f0.f1, .int .u32 x.f3.f0.f2, .int .i64 x.f3.f1.f0, .int .i64 x.f3.f1.f1, .int .u32 x.f3.f1.f2, .int .i64 x.f3.f2.f0, .int .i64 x.f3.f2.f1, .int .u32 x.f3.f2.f2, .int .i64 x.f3.f3.f0, .int .i64 x.f3.f3.f1, .int .u32 x.f3.f3.f2, .int .i64 x.f4, .int .i64 x.f5, .int .i64 x.f6, .bool x.f7, .bool x.f8, .int .i64 x.f9.f0, .int .i64 x.f9.f1, .bool x.f10, .bool x.f11], rfl, (k25_mk w x.f2 ), ⟨[.int .i64 x.f3.f0.f0, .int .i64 x.f3.f0.f1, .int .u32 x.f3.f0.f2, .int .i64 x.f3.f1.f0, .int .i64 x.f3.f1.f1, .int .u32 x.f3.f1.f2, .int .i64 x.f3.f2.f0, .int .i64 x.f3.f2.f1, .int .u32 x.f3.f2.f2, .int .i64 x.f3.f3.f0, .int .i64 x.f3.f3.f1, .int .u32 x.f3.f3.f2], [.int .i64 x.f4, .int .i64 x.f5, .int .i64 x.f6, .bool x.f7, .bool x.f8, .int .i64 x.f9.f0, .int .i64 x.f9.f1, .bool x.f10, .bool x.f11], rfl, (k29_mk w x.f3 ), ⟨[.int .i64 x.f4], [.int .i64 x.f5, .int .i64 x.f6, .bool x.f7, .bool x.f8, .int .i64 x.f9.f0, .int .i64 x.f9.f1, .bool x.f10, .bool x.f11], rfl, rfl, ⟨[.int .i64 x.f5], [.int .i64 x.f6, .bool x.f7, .bool x.f8, .int .i64 x.f9.f0, .int .i64 x.f9.f1, .bool x.f10, .bool x.f11], rfl, rfl, ⟨[.int .i64 x.f6], [.bool x.f7, .bool x.f8, .int .i64 x.f9.f0, .int .i64 x.f9.f1, .bool x.f10, .bool x.f11], rfl, rfl, ⟨[.bool x.f7], [.bool x.f8, .int .i64 x.f9.f0, .int .i64 x.f9.f1, .bool x.f10, .bool x.f11], rfl, rfl, ⟨[.bool x.f8], [.int .i64 x.f9.f0, .int .i64 x.f9.f1, .bool x.f10, .bool x.f11], rfl, rfl, ⟨[.int .i64 x.f9.f0, .int .i64 x.f9.f1], [.bool x.f10, .bool x.f11], rfl, (k30_mk w x.f9 ), ⟨[.bool x.f10], [.bool x.f11], rfl, rfl, rfl⟩⟩⟩⟩⟩⟩⟩⟩⟩⟩⟩
theorem k32_mkM (w : World) (base : Nat) (ok : Nat → Prop) (x : S32)  : k32.M w base ok x [.int .i64 x.f0.f0, .int .i64 x.f0.f1, .int .i64 x.f1.f0, .int .i64 x.f1.f1, .int .i64 x.f2.f0, .int .i64 x.f2.f1, .int .i64 x.f2.f2, .int .i64 x.f2.f3, .int .i64 x.f3.f0.f0, .int .i64 x.f3.f0.f1, .int .u32 x.f3.f0.f2, .int .i64 x.f3.f1.f0, .int .i64 x.f3.f1.f1, .int .u32 x.f3.f1.f2, .int .i64 x.f3.f2.f0, .int .i64 x.f3.f2.f1, .int .u32 x.f3.f2.f2, .int .i64 x.f3.f3.f0, .int .i64 x.f3.f3.f1, .int .u32 x.f3.f3.f2, .int .i64 x.f4, .int .i64 x.f5, .int .i64 x.f6, .bool x.f7, .bool x.f8, .int .i64 x.f9.f0, .int .i64 x.f9.f1, .bool x.f10, .bool x.f11] := ⟨[.int .i64 x.f0.f0, .int .i64 x.f0.f1], [.int .i64 x.f1.f0, .int .i64 x.f1.f1, .int .i64 x.f2.f0, .int .i64 x.f2.f1, .int .i64 x.f2.f2, .int .i64 x.f2.f3, .int .i64 x.f3.f0.f0, .int .i64 x.f3.f0.f1, .int .u32 x.f3.f0.f2, .int .i64 x.f3.f1.f0, .int .i64 x.f3.f1.f1, .int .u32 x.f3.f1.f2, .int .i64 x.f3.f2.f0, .int .i64 x.f3.f2.f1, .int .u32 x.f3.f2.f2, .int .i64 x.f3.f3.f0, .int .i64 x.f3.f3.f1, .int .u32 x.f3.f3.f2, .int .i64 x.f4, .int .i64 x.f5, .int .i64 x.f6, .bool x.f7, .bool x.f8, .int .i64 x.f9.f0, .int .i64 x.f9.f1, .bool x.f10, .bool x.f11], rfl, (k24_mkM w base ok x.f0 ), ⟨[.int .i64 x.f1.f0, .int .i64 x.f1.f1], [.int .i64 x.f2.f0, .int .i64 x.f2.f1, .int .i64 x.f2.f2, .int .i64 x.f2.f3, .int .i64 x.f3.f0.f0, .int .i64 x.f3.f0.f1, .int .u32 x.f3.f0.f2, .int .i64 x.f3.f1.f0, .int .i64 x.f3.f1.f1, .int .u32 x.f3.f1.f2, .int .i64 x.f3.f2.f0, .int .i64 x.f3.f2.f1, .int .u32 x.f3.f2.f2, .int .i64 x.f3.f3.f0, .int .i64 x.f3.f3.f1, .int .u32 x.f3.f3.f2, .int .i64 x.f4, .int .i64 x.f5, .int .i64 x.f6, .bool x.f7, .bool x.f8, .int .i64 x.f9.f0, .int .i64 x.f9.f1, .bool x.f10, .bool x.f11], rfl, (k24_mkM w base ok x.f1 ), ⟨[.int .i64 x.f2.f0, .int .i64 x.f2.f1, .int .i64 x.f2.f2, .int .i64 x.f2.f3], [.int .i64 x.f3.f0.f0, .int .i64 x.f3.f0.f1, .int .u32 x.f3.f0.f2, .int .i64 x.f3.f1.f0, .int .i64 x.f3.f1.f1, .int .u32 x.f3.f1.f2, .int .i64 x.f3.f2.f0, .int .i64 x.f3.f2.f1, .int .u32 x.f3.f2.f2, .int .i64 x.f3.f3.f0, .int .i64 x.f3.f3.f1, .int .u32 x.f3.f3.f2, .int .i64 x.f4, .int .i64 x.f5, .int .i64 x.f6, .bool x.f7, .bool x.f8, .int .i64 x.f9.f0, .int .i64 x.f9.f1, .bool x.f10, .bool x.f11], rfl, (k25_mkM w base ok x.f2 ), ⟨[.int .i64 x.f3.f0.f0, .int .i64 x.f3.f0.f1, .int .u32 x.f3.f0.f2, .int .i64 x.f3.f1.f0, .int .i64 x.f3.f1.f1, .int .u32 x.f3.f1.f2, .int .i64 x.f3.f2.f0, .int .i64 x.f3.f2.f1, .int .u32 x.f3.f2.f2, .int .i64 x.f3.f3.f0, .int .i64 x.f3.f3.f1, .int .u32 x.f3.f3.f2], [.int .i64 x.f4, .int .i64 x.f5, .int .i64 x.f6, .bool x.f7, .bool x.f8, .int .i64 x.f9.f0, .int .i64 x.f9.f1, .bool x.f10, .bool x.f11], rfl, (k29_mkM w base ok x.f3 ), ⟨[.int .i64 x.f4], [.int .i64 x.f5, .int .i64 x.f6, .bool x.f7, .bool x.f8, .int .i64 x.f9.f0, .int .i64 x.f9.f1, .bool x.f10, .bool x.f11], rfl, rfl, ⟨[.int .i64 x.f5], [.int .i64 x.f6, .bool x.f7, .bool x.f8, .int .i64 x.f9.f0, .int .i64 x.f9.f1, .bool x.f10, .bool x.f11], rfl, rfl, ⟨[.int .i64 x.f6], [.bool x.f7, .bool x.f8, .int .i64 x.f9.f0, .int .i64 x.f9.f1, .bool x.f10, .bool x.f11], rfl, rfl, ⟨[.bool x.f7], [.bool x.f8, .int .i64 x.f9.f0, .int .i64 x.f9.f1, .bool x.f10, .bool x.f11], rfl, rfl, ⟨[.bool x.f8], [.int .i64 x.f9.f0, .int .i64 x.f9.f1, .bool x.f10, .bool x.f11], rfl, rfl, ⟨[.int .i64 x.f9.f0, .int .i64 x.f9.f1], [.bool x.f10, .bool x.f11], rfl, (k30_mkM w base ok x.f9 ), ⟨[.bool x.f10], [.bool x.f11], rfl, rfl, rfl⟩⟩⟩⟩⟩⟩⟩⟩⟩⟩⟩
def rd_T32 (xs : List S32) (i : Int) : S32 := xs.getD i.toNat z32
theorem at_T32 {w : World} {A : Option Addr} {n : Nat} {xs : List S32} (h : Kd.C k32 w A n xs) (i : Int) (h0 : 0 ≤ i) (h1 : i < n) : ∃ ad , A = some ad ∧ w.cell? (ad.add (i.toNat * 29)) = some (.int .i64 (rd_T32 xs i).f0.f0) ∧ w.cell? ⟨(ad.add (i.toNat * 29)).block, (ad.add (i.toNat * 29)).off + 1, none⟩ = some (.int .i64 (rd_T32 xs i).f0.f1) ∧ w.cell? ⟨(ad.add (i.toNat * 29)).block, (ad.add (i.toNat * 29)).off + 2, none⟩ = some (.int .i64 (rd_T32 xs i).f1.f0) ∧ w.cell? ⟨(ad.add (i.toNat * 29)).block, (ad.add (i.toNat * 29)).off + 3, none⟩ = some (.int .i64 (rd_T32 xs i).f1.f1) ∧ w.cell? ⟨(ad.add (i.toNat * 29)).block, (ad.add (i.toNat * 29)).off + 4, none⟩ = some (.int .i64 (rd_T32 xs i).f2.f0) ∧ w.cell? ⟨(ad.add (i.toNat * 29)).block, (ad.add (i.toNat * 29)).off + 5, none⟩ = some (.int .i64 (rd_T32 xs i).f2.f1) ∧ w.cell? ⟨(ad.add (i.toNat * 29)).block, (ad.add (i.toNat * 29)).off + 6, none⟩ = some (.int .i64 (rd_T32 xs i).f2.f2) ∧ w.cell? ⟨(ad.add (i.toNat * 29)).block, (ad.add (i.toNat * 29)).off + 7, none⟩ = some (.int .i64 (rd_T32 xs i).f2.f3) ∧ w.cell? ⟨(ad.add (i.toNat * 29)).block, (ad.add (i.toNat * 29)).off + 8, none⟩ = some (.int .i64 (rd_T32 xs i).f3.f0.f0) ∧ w.cell? ⟨(ad.add (i.toNat * 29)).block, (ad.add (i.toNat * 29)).off + 9, none⟩ = some (.int .i64 (rd_T32 xs i).f3.f0.f1) ∧ w.cell? ⟨(ad.add (i.toNat * 29)).block, (ad.add (i.toNat * 29)).off + 10, none⟩ = some (.int .u32 (rd_T32 xs i).f3.f0.f2) ∧ w.cell? ⟨(ad.add (i.toNat * 29)).block, (ad.add (i.toNat * 29)).off + 11, none⟩ = some (.int .i64 (rd_T32 xs i).f3.f1.f0) ∧ w.cell? ⟨(ad.add (i.toNat * 29)).block, (ad.add (i.toNat * 29)).off + 12, none⟩ = some (.int .i64 (rd_T32 xs i).f3.f1.f1) ∧ w.cell? ⟨(ad.add (i.toNat * 29)).block, (ad.add (i.toNat * 29)).off + 13, none⟩ = some (.int .u32 (rd_T32 xs i).f3.f1.f2) ∧ w.cell? ⟨(ad.add (i.toNat * 29)).block, (ad.add (i.toNat * 29)).off + 14, none⟩ = some (.int .i64 (rd_T32 xs i).f3.f2.f0) ∧ w.cell? ⟨(ad.add (i.toNat * 29)).block, (ad.add (i.toNat * 29)).off + 15, none⟩ = some (.int .i64 (rd_T32 xs i).f3.f2.f1) ∧ w.cell? ⟨(ad.add (i.toNat * 29)).block, (ad.add (i.toNat * 29)).off + 16, none⟩ = some (.int .u32 (rd_T32 xs i).f3.f2.f2) ∧ w.cell? ⟨(ad.add (i.toNat * 29)).block, (ad.add (i.toNat * 29)).off + 17, none⟩ = some (.int .i64 (rd_T32 xs i).f3.f3.f0) ∧ w.cell? ⟨(ad.add (i.toNat * 29)).block, (ad.add (i.toNat * 29)).off + 18, none⟩ = some (.int .i64 (rd_T32 xs i).f3.f3.f1) ∧ w.cell? ⟨(ad.add (i.toNat * 29)).block, (ad.add (i.toNat * 29)).off + 19, none⟩ = some (.int .u32 (rd_T32 xs i).f3.f3.f2) ∧ w.cell? ⟨(ad.add (i.toNat * 29)).block, (ad.add (i.toNat * 29)).off + 20, none⟩ = some (.int .i64 (rd_T32 xs i).f4) ∧ w.cell? ⟨(ad.add (i.toNat * 29)).block, (ad.add (i.toNat * 29)).off + 21, none⟩ = some (.int .i64 (rd_T32 xs i).f5) ∧ w.cell? ⟨(ad.add (i.toNat * 29)).block, (ad.add (i.toNat * 29)).off + 22, none⟩ = some (.int .i64 (rd_T32 xs i).f6) ∧ w.cell? ⟨(ad.add (i.toNat * 29)).block, (ad.add (i.toNat * 29)).off + 23, none⟩ = some (.bool (rd_T32 xs i).f7) ∧ w.cell? ⟨(ad.add (i.toNat * 29)).block, (ad.add (i.toNat * 29)).off + 24, none⟩ = some (.bool (rd_T32 xs i).f8) ∧ w.cell? ⟨(ad.add (i.toNat * 29)).block, (ad.add (i.toNat * 29)).off + 25, none⟩ = some (.int .i64 (rd_T32 xs i).f9.f0) ∧ w.cell? ⟨(ad.add (i.toNat * 29)).block, (ad.add (i.toNat * 29)).off + 26, none⟩ = some (.int .i64 (rd_T32 xs i).f9.f1) ∧ w.cell? ⟨(ad.add (i.toNat * 29)).block, (ad.add (i.toNat * 29)).off + 27, none⟩ = some (.bool (rd_T32 xs i).f10) ∧ w.cell? ⟨(ad.add (i.toNat * 29)).block, (ad.add (i.toNat * 29)).off + 28, none⟩ = some (.bool (rd_T32 xs i).f11) := by
  obtain ⟨ad, c, e, _, hK, hc0⟩ := Kd.C_get h z32 i h0 h1
  have hc : ∀ j u, c[j]? = some u → w.cell? (ad.add (i.toNat * 29 + j)) = some u := hc0
  obtain rfl := k32_open hK
  exact ⟨ad, e, hc 0 _ rfl, by rw [← add_field _ _ 1 (by omega)]; exact hc 1 _ rfl, by rw [← add_field _ _ 2 (by omega)]; exact hc 2 _ rfl, by rw [← add_field _ _ 3 (by omega)]; exact hc 3 _ rfl, by rw [← add_field _ _ 4 (by omega)]; exact hc 4 _ rfl, by rw [← add_field _ _ 5 (by omega)]; exact hc 5 _ rfl, by rw [← add_field _ _ 6 (by omega)]; exact hc 6 _ rfl, by rw [← add_field _ _ 7 (by omega)]; exact hc 7 _ rfl, by rw [← add_field _ _ 8 (by omega)]; exact hc 8 _ rfl, by rw [← add_field _ _ 9 (by omega)]; exact hc 9 _ rfl, by rw [← add_field _ _ 10 (by omega)]; exact hc 10 _ rfl, by rw [← add_field _ _ 11 (by omega)]; exact hc 11 _ rfl, by rw [← add_field _ _ 12 (by omega)]; exact hc 12 _ rfl, by rw [← add_field _ _ 13 (by omega)]; exact hc 13 _ rfl, by rw [← add_field _ _ 14 (by omega)]; exact hc 14 _ rfl, by rw [← add_field _ _ 15 (by omega)]; exact hc 15 _ rfl, by rw [← add_field _ _ 16 (by omega)]; exact hc 16 _ rfl, by rw [← add_field _ _ 17 (by omega)]; exact hc 17 _ rfl, by rw [← add_field _ _ 18 (by omega)]; exact hc 18 _ rfl, by rw [← add_field _ _ 19 (by omega)]; exact hc 19 _ rfl, by rw [← add_field _ _ 20 (by omega)]; exact hc 20 _ rfl, by rw [← add_field _ _ 21 (by omega)]; exact hc 21 _ rfl, by rw [← add_field _ _ 22 (by omega)]; exact hc 22 _ rfl, by rw [← add_field _ _ 23 (by omega)]; exact hc 23 _ rfl, by rw [← add_field _ _ 24 (by omega)]; exact hc 24 _ rfl, by rw [← add_field _ _ 25 (by omega)]; exact hc 25 _ rfl, by rw [← add_field _ _ 26 (by omega)]; exact hc 26 _ rfl, by rw [← add_field _ _ 27 (by omega)]; exact hc 27 _ rfl, by rw [← add_field _ _ 28 (by omega)]; exact hc 28 _ rfl⟩

def rd_L12 (xs : List (List Int)) (i : Int) : (List Int) := xs.getD i.toNat ([] : List Int)
theorem at_L12 {w : World} {A : Option Addr} {n : Nat} {xs : List (List Int)} (h : Kd.C (Kd.slice 2 (Kd.int .i64)) w A n xs) (i : Int) (h0 : 0 ≤ i) (h1 : i < n) : ∃ ad A0 c0, A = some ad ∧ w.cell? (ad.add i.toNat) = some (.slice A0 (rd_L12 xs i).length c0) ∧ (rd_L12 xs i).length ≤ c0 ∧ (Kd.int .i64).C w A0 (rd_L12 xs i).length (rd_L12 xs i) := by
  obtain ⟨ad, c, e, _, hK, hc0⟩ := Kd.C_get h ([] : List Int) i h0 h1
  have hc : ∀ j u, c[j]? = some u → w.cell? (ad.add (i.toNat * 1 + j)) = some u := hc0
  obtain ⟨A0, c0, rfl, l0, g0⟩ := hK
  exact ⟨ad, A0, c0, e, by have hq := hc 0 _ rfl; rwa [Nat.mul_one, Nat.add_zero] at hq, l0, g0⟩

/-! #### struct type 35 -/
structure S35 where
  f0 : Int
  f1 : (List Int)
  f2 : S32
  f3 : (List Int)
  f4 : Int
  f5 : Int
def z35 : S35 := ⟨(0 : Int), ([] : List Int), z32, ([] : List Int), (0 : Int), (0 : Int)⟩
def k35 : Kd S35 := Kd.iso (Kd.pair (Kd.int .i64) (Kd.pair (Kd.slice 3 (Kd.int .i64)) (Kd.pair k32 (Kd.pair (Kd.slice 2 (Kd.int .i64)) (Kd.pair (Kd.int .i64) (Kd.int .i64)))))) (fun x : S35 => (x.f0, x.f1, x.f2, x.f3, x.f4, x.f5))
theorem k35_open {w : World} {x : S35} {cs : List Value} (h : k35.K w x cs) : ∃ A1 c1 A31 c31, cs = [.int .i64 x.f0, .slice A1 x.f1.length c1, .int .i64 x.f2.f0.f0, .int .i64 x.f2.f0.f1, .int .i64 x.f2.f1.f0, .int .i64 x.f2.f1.f1, .int .i64 x.f2.f2.f0, .int .i64 x.f2.f2.f1, .int .i64 x.f2.f2.f2, .int .i64 x.f2.f2.f3, .int .i64 x.f2.f3.f0.f0, .int .i64 x.f2.f3.f0.f1, .int .u32 x.f2.f3.f0.f2, .int .i64 x.f2.f3.f1.f0, .int .i64 x.f2.f3.f1.f1, .int .u32 x.f2.f3.f1.f2, .int .i64 x.f2.f3.f2.f0, .int .i64 x.f2.f3.f2.f1, .int .u32 x.f2.f3.f2.f2, .int .i64 x.f2.f3.f3.f0, .int .i64 x.f2.f3.f3.f1, .int .u32 x.f2.f3.f3.f2, .int .i64 x.f2.f4, .int .i64 x.f2.f5, .int .i64 x.f2.f6, .bool x.f2.f7, .bool x.f2.f8, .int .i64 x.f2.f9.f0, .int .i64 x.f2.f9.f1, .bool x.f2.f10, .bool x.f2.f11, .slice A31 x.f3.length c31, .int .i64 x.f4, .int .i64 x.f5] ∧ x.f1.length ≤ c1 ∧ (Kd.int .i64).C w A1 x.f1.length x.f1 ∧ x.f3.length ≤ c31 ∧ (Kd.int .i64).C w A31 x.f3.length x.f3 := by
  obtain ⟨_, _, rfl, rfl, ⟨_, _, rfl, ⟨A1, c1, rfl, l1, g1⟩, ⟨_, _, rfl, s2, ⟨_, _, rfl, ⟨A31, c31, rfl, l31, g31⟩, ⟨_, _, rfl, rfl, rfl⟩⟩⟩⟩⟩ := h
  obtain rfl := k32_open s2
  exact ⟨A1, c1, A31, c31, rfl, l1, g1, l31, g31⟩
theorem k35_openM {w : World} {base : Nat} {ok : Nat → Prop} {x : S35} {cs : List Value} (h : k35.M w base ok x cs) : ∃ v1 v31, cs = [.int .i64 x.f0, v1, .int .i64 x.f2.f0.f0, .int .i64 x.f2.f0.f1, .int .i64 x.f2.f1.f0, .int .i64 x.f2.f1.f1, .int .i64 x.f2.f2.f0, .int .i64 x.f2.f2.f1, .int .i64 x.f2.f2.f2, .int .i64 x.f2.f2.f3, .int .i64 x.f2.f3.f0.f0, .int .i64 x.f2.f3.f0.f1, .int .u32 x.f2.f3.f0.f2, .int .i64 x.f2.f3.f1.f0, .int .i64 x.f2.f3.f1.f1, .int .u32 x.f2.f3.f1.f2, .int .i64 x.f2.f3.f2.f0, .int .i64 x.f2.f3.f2.f1, .int .u32 x.f2.f3.f2.f2, .int .i64 x.f2.f3.f3.f0, .int .i64 x.f2.f3.f3.f1, .int .u32 x.f2.f3.f3.f2, .int .i64 x.f2.f4, .int .i64 x.f2.f5, .int .i64 x.f2.f6, .bool x.f2.f7, .bool x.f2.f8, .int .i64 x.f2.f9.f0, .int .i64 x.f2.f9.f1, .bool x.f2.f10, .bool x.f2.f11, v31, .int .i64 x.f4, .int .i64 x.f5] ∧ (Kd.int .i64).R 3 w base ok v1 x.f1 ∧ (Kd.int .i64).R 2 w base ok v31 x.f3 := by
  obtain ⟨_, _, rfl, rfl, ⟨_, _, rfl, ⟨v1, rfl, g1⟩, ⟨_, _, rfl, s2, ⟨_, _, rfl, ⟨v31, rfl, g31⟩, ⟨_, _, rfl, rfl, rfl⟩⟩⟩⟩⟩ := h
  obtain rfl := k32_openM s2
  exact ⟨v1, v31, rfl, g1, g31⟩
theorem k35_mk (w : World) (x : S35) {A1 : Option Addr} {c1 : Nat} (l1 : x.f1.length ≤ c1) (g1 : (Kd.int .i64).C w A1 x.f1.length x.f1) {A31 : Option Addr} {c31 : Nat} (l31 : x.f3.length ≤ c31) (g31 : (Kd.int .i64).C w A31 x.f3.length x.f3) : k35.K w x [.int .i64 x.f0, .slice A1 x.f1.length c1, .int .i64 x.f2.f0.f0, .int .i64 x.f2.f0.f1, .int .i64 x.f2.f1.f0, .int .i64 x.f2.f1.f1, .int .i64 x.f2.f2.f0, .int .i64 x.f2.f2.f1, .int .i64 x.f2.f2.f2, .int .i64 x.f2.f2.f3, .int .i64 x.f2.f3.f0.f0, .int .i64 x.f2.f3.f0.f1, .int .u32 x.f2.f3.f0.f2, .int .i64 x.f2.f3.f1.f0, .int .i64 x.f2.f3.f1.f1, .int .u32 x.f2.f3.f1.f2, .int .i64 x.f2.f3.f2.f0, .int .i64 x.f2.f3.f2.f1, .int .u32 x.f2.f3.f2.f2, .int .i64 x.f2.f3.f3.f0, .int .i64 x.f2.f3.f3.f1, .int .u32 x.f2.f3.f3.f2, .int .i64 x.f2.f4, .int .i64 x.f2.f5, .int .i64 x.f2.f6, .bool x.f2.f7, .bool x.f2.f8, .int .i64 x.f2.f9.f0, .int .i64 x.f2.f9.f1, .bool x.f2.f10, .bool x.f2.f11, .slice A31 x.f3.length c31, .int .i64 x.f4, .int .i64 x.f5] := ⟨[.int .i64 x.f0], [.slice A1 x.f1.length c1, .int .i64 x.f2.f0.f0, .int .i64 x.f2.f0.f1, .int .i64 x.f2.f1.f0, .int .i64 x.f2.f1.f1, .int .i64 x.f2.f2.f0, .int .i64 x.f2.f2.f1, .int .i64 x.f2.f2.f2, .int .i64 x.f2.f2.f3, .int .i64 x.f2.f3.f0.f0, .int .i64 x.f2.f3.f0.f1, .int .u32 x.f2.f3.f0.f2, .int .i64 x.f2.f3.f1.f0, .int .i64 x.f2.f3.f1.f1, .int .u32 x.f2.f3.f1.f2, .int .i64 x.f2.f3.f2.f0, .int .i64 x.f2.f3.f2.f1, .int .u32 x.f2.f3.f2.f2, .int .i64 x.f2.f3.f3.f0, .int .i64 x.f2.f3.f3.f1, .int .u32 x.f2.f3.f3.f2, .int .i64 x.f2.f4, .int .i64 x.f2.f5, .int .i64 x.f2.f6, .bool x.f2.f7, .bool x.f2.f8, .int .i64 x.f2.f9.f0, .int .i64 x.f2.f9.f1, .bool x.f2.f10, .bool x.f2.f11, .slice A31 x.f3.length c31, .int .i64 x.f4, .int .i64 x.f5], rfl, rfl, ⟨[.slice A1 x.f1.length c1], [.int .i64 x.f2.f0.f0, .int .i64 x.f2.f0.f1, .int .i64 x.f2.f1.f0, .int .i64 x.f2.f1.f1, .int .i64 x.f2.f2.f0, .int .i64 x.f2.f2.f1, .int .i64 x.f2.f2.f2, .int .i64 x.f2.f2.f3, .int .i64 x.f2.f3.f0.f0, .int .i64 x.f2.f3.f0.f1, .int .u32 x.f2.f3.f0.f2, .int .i64 x.f2.f3.f1.f0, .int .i64 x.f2.f3.f1.f1, .int .u32 x.f2.f3.f1.f2, .int .i64 x.f2.f3.f2.f0, .int .i64 x.f2.f3.f2.f1, .int .u32 x.f2.f3.f2.f2, .int .i64 x.f2.f3.f3.f0, .int .i64 x.f2.f3.f3.f1, .int .u32 x.f2.f3.f3.f2, .int .i64 x.f2.f4, .int .i64 x.f2.f5, .int .i64 x.f2.f6, .bool x.f2.f7, .bool x.f2.f8, .int .i64 x.f2.f9.f0, .int .i64 x.f2.f9.f1, .bool x.f2.f10, .bool x.f2.f11, .slice A31 x.f3.length c31, .int .i64 x.f4, .int .i64 x.f5], rfl, ⟨A1, c1, rfl, l1, g1⟩, ⟨[.int .i64 x.f2.f0.f0, .int .i64 x.f2.f0.f1, .int .i64 x.f2.f1.f0, .int .i64 x.f2.f1.f1, .int .i64 x.f2.f2.f0, .int .i64 x.f2.f2.f1, .int .i64 x.f2.f2.f2, .int .i64 x.f2.f2.f3, .int .i64 x.f2.f3.f0.f0, .int .i64 x.f2.f3.f0.f1, .int .u32 x.f2.f3.f0.f2, .int .i64 x.f2.f3.f1.f0, .int .i64 x.f2.f3.f1.f1, .int .u32 x.f2.f3.f1.f2, .int .i64 x.f2.f3.f2.f0, .int .i64 x.f2.f3.f2.f1, .int .u32 x.f2.f3.f2.f2, .int .i64 x.f2.f3.f3.f0, .int .i64 x.f2.f3.f3.f1, .int .u32 x.f2.f3.f3.f2, .int .i64 x.f2.f4, .int .i64 x.f2.f5, .int .i64 x.f2.f6, .bool x.f2.f7, .bool x.f2.f8, .int .i64 x.f2.f9.f0, .int .i64 x.f2.f9.f1, .bool x.f2.f10, .bool x.f2.f11], [.slice A31 x.f3.length c31, .int .i64 x.f4, .int .i64 x.f5], rfl, (k32_mk w x.f2 ), ⟨[.slice A31 x.f3.length c31], [.int .i64 x.f4, .int .i64 x.f5], rfl, ⟨A31, c31, rfl, l31, g31⟩, ⟨[.int .i64 x.f4], [.int .i64 x.f5], rfl, rfl, rfl⟩⟩⟩⟩⟩
theorem k35_mkM (w : World) (base : Nat) (ok : Nat → Prop) (x : S35) {v1 : Value} (g1 : (Kd.int .i64).R 3 w base ok v1 x.f1) {v31 : Value} (g31 : (Kd.int .i64).R 2 w base ok v31 x.f3) : k35.M w base ok x [.int .i64 x.f0, v1, .int .i64 x.f2.f0.f0, .int .i64 x.f2.f0.f1, .int .i64 x.f2.f1.f0, .int .i64 x.f2.f1.f1, .int .i64 x.f2.f2.f0, .int .i64 x.f2.f2.f1, .int .i64 x.f2.f2.f2, .int .i64 x.f2.f2.f3, .int .i64 x.f2.f3.f0.f0, .int .i64 x.f2.f3.f0.f1, .int .u32 x.f2.f3.f0.f2, .int .i64 x.f2.f3.f1.f0, .int .i64 x.f2.f3.f1.f1, .int .u32 x.f2.f3.f1.f2, .int .i64 x.f2.f3.f2.f0, .int .i64 x.f2.f3.f2.f1, .int .u32 x.f2.f3.f2.f2, .int .i64 x.f2.f3.f3.f0, .int .i64 x.f2.f3.f3.f1, .int .u32 x.f2.f3.f3.f2, .int .i64 x.f2.f4, .int .i64 x.f2.f5, .int .i64 x.f2.f6, .bool x.f2.f7, .bool x.f2.f8, .int .i64 x.f2.f9.f0, .int .i64 x.f2.f9.f1, .bool x.f2.f10, .bool x.f2.f11, v31, .int .i64 x.f4, .int .i64 x.f5] := ⟨[.int .i64 x.f0], [v1, .int .i64 x.f2.f0.f0, .int .i64 x.f2.f0.f1, .int .i64 x.f2.f1.f0, .int .i64 x.f2.f1.f1, .int .i64 x.f2.f2.f0, .int .i64 x.f2.f2.f1, .int .i64 x.f2.f2.f2, .int .i64 x.f2.f2.f3, .int .i64 x.f2.f3.f0.f0, .int .i64 x.f2.f3.f0.f1, .int .u32 x.f2.f3.f0.f2, .int .i64 x.f2.f3.f1.f0, .int .i64 x.f2.f3.f1.f1, .int .u32 x.f2.f3.f1.f2, .int .i64 x.f2.f3.f2.f0, .int .i64 x.f2.f3.f2.f1, .int .u32 x.f2.f3.f2.f2, .int .i64 x.f2.f3.f3.f0, .int .i64 x.f2.f3.f3.f1, .int .u32 x.f2.f3.f3.f2, .int .i64 x.f2.f4, .int .i64 x.f2.f5, .int .i64 x.f2.f6, .bool x.f2.f7, .bool x.f2.f8, .int .i64 x.f2.f9.f0, .int .i64 x.f2.f9.f1, .bool x.f2.f10, .bool x.f2.f11, v31, .int .i64 x.f4, .int .i64 x.f5], rfl, rfl, ⟨[v1], [.int .i64 x.f2.f0.f0, .int .i64 x.f2.f0.f1, .int .i64 x.f2.f1.f0, .int .i64 x.f2.f1.f1, .int .i64 x.f2.f2.f0, .int .i64 x.f2.f2.f1, .int .i64 x.f2.f2.f2, .int .i64 x.f2.f2.f3, .int .i64 x.f2.f3.f0.f0, .int .i64 x.f2.f3.f0.f1, .int .u32 x.f2.f3.f0.f2, .int .i64 x.f2.f3.f1.f0, .int .i64 x.f2.f3.f1.f1, .int .u32 x.f2.f3.f1.f2, .int .i64 x.f2.f3.f2.f0, .int .i64 x.f2.f3.f2.f1, .int .u32 x.f2.f3.f2.f2, .int .i64 x.f2.f3.f3.f0, .int .i64 x.f2.f3.f3.f1, .int .u32 x.f2.f3.f3.f2, .int .i64 x.f2.f4, .int .i64 x.f2.f5, .int .i64 x.f2.f6, .bool x.f2.f7, .bool x.f2.f8, .int .i64 x.f2.f9.f0, .int .i64 x.f2.f9.f1, .bool x.f2.f10, .bool x.f2.f11, v31, .int .i64 x.f4, .int .i64 x.f5], rfl, ⟨v1, rfl, g1⟩, ⟨[.int .i64 x.f2.f0.f0, .int .i64 x.f2.f0.f1, .int .i64 x.f2.f1.f0, .int .i64 x.f2.f1.f1, .int .i64 x.f2.f2.f0, .int .i64 x.f2.f2.f1, .int .i64 x.f2.f2.f2, .int .i64 x.f2.f2.f3, .int .i64 x.f2.f3.f0.f0, .int .i64 x.f2.f3.f0.f1, .int .u32 x.f2.f3.f0.f2, .int .i64 x.f2.f3.f1.f0, .int .i64 x.f2.f3.f1.f1, .int .u32 x.f2.f3.f1.f2, .int .i64 x.f2.f3.f2.f0, .int .i64 x.f2.f3.f2.f1, .int .u32 x.f2.f3.f2.f2, .int .i64 x.f2.f3.f3.f0, .int .i64 x.f2.f3.f3.f1, .int .u32 x.f2.f3.f3.f2, .int .i64 x.f2.f4, .int .i64 x.f2.f5, .int .i64 x.f2.f6, .bool x.f2.f7, .bool x.f2.f8, .int .i64 x.f2.f9.f0, .int .i64 x.f2.f9.f1, .bool x.f2.f10, .bool x.f2.f11], [v31, .int .i64 x.f4, .int .i64 x.f5], rfl, (k32_mkM w base ok x.f2 ), ⟨[v31], [.int .i64 x.f4, .int .i64 x.f5], rfl, ⟨v31, rfl, g31⟩, ⟨[.int .i64 x.f4], [.int .i64 x.f5], rfl, rfl, rfl⟩⟩⟩⟩⟩
def rd_T35 (xs : List S35) (i : Int) : S35 := xs.getD i.toNat z35
theorem at_T35 {w : World} {A : Option Addr} {n : Nat} {xs : List S35} (h : Kd.C k35 w A n xs) (i : Int) (h0 : 0 ≤ i) (h1 : i < n) : ∃ ad A1 c1 A31 c31, A = some ad ∧ w.cell? (ad.add (i.toNat * 34)) = some (.int .i64 (rd_T35 xs i).f0) ∧ w.cell? ⟨(ad.add (i.toNat * 34)).block, (ad.add (i.toNat * 34)).off + 1, none⟩ = some (.slice A1 (rd_T35 xs i).f1.length c1) ∧ w.cell? ⟨(ad.add (i.toNat * 34)).block, (ad.add (i.toNat * 34)).off + 2, none⟩ = some (.int .i64 (rd_T35 xs i).f2.f0.f0) ∧ w.cell? ⟨(ad.add (i.toNat * 34)).block, (ad.add (i.toNat * 34)).off + 3, none⟩ = some (.int .i64 (rd_T35 xs i).f2.f0.f1) ∧ w.cell? ⟨(ad.add (i.toNat * 34)).block, (ad.add (i.toNat * 34)).off + 4, none⟩ = some (.int .i64 (rd_T35 xs i).f2.f1.f0) ∧ w.cell? ⟨(ad.add (i.toNat * 34)).block, (ad.add (i.toNat * 34)).off + 5, none⟩ = some (.int .i64 (rd_T35 xs i).f2.f1.f1) ∧ w.cell? ⟨(ad.add (i.toNat * 34)).block, (ad.add (i.toNat * 34)).off + 6, none⟩ = some (.int .i64 (rd_T35 xs i).f2.f2.f0) ∧ w.cell? ⟨(ad.add (i.toNat * 34)).block, (ad.add (i.toNat * 34)).off + 7, none⟩ = some (.int .i64 (rd_T35 xs i).f2.f2.f1) ∧ w.cell? ⟨(ad.add (i.toNat * 34)).block, (ad.add (i.toNat * 34)).off + 8, none⟩ = some (.int .i64 (rd_T35 xs i).f2.f2.f2) ∧ w.cell? ⟨(ad.add (i.toNat * 34)).block, (ad.add (i.toNat * 34)).off + 9, none⟩ = some (.int .i64 (rd_T35 xs i).f2.f2.f3) ∧ w.cell? ⟨(ad.add (i.toNat * 34)).block, (ad.add (i.toNat * 34)).off + 10, none⟩ = some (.int .i64 (rd_T35 xs i).f2.f3.f0.f0) ∧ w.cell? ⟨(ad.add (i.toNat * 34)).block, (ad.add (i.toNat * 34)).off + 11, none⟩ = some (.int .i64 (rd_T35 xs i).f2.f3.f0.f1) ∧ w.cell? ⟨(ad.add (i.toNat * 34)).block, (ad.add (i.toNat * 34)).off + 12, none⟩ = some (.int .u32 (rd_T35 xs i).f2.f3.f0.f2) ∧ w.cell? ⟨(ad.add (i.toNat * 34)).block, (ad.add (i.toNat * 34)).off + 13, none⟩ = some (.int .i64 (rd_T35 xs i).f2.f3.f1.f0) ∧ w.cell? ⟨(ad.add (i.toNat * 34)).block, (ad.add (i.toNat * 34)).off + 14, none⟩ = some (.int .i64 (rd_T35 xs i).f2.f3.f1.f1) ∧ w.cell? ⟨(ad.add (i.toNat * 34)).block, (ad.add (i.toNat * 34)).off + 15, none⟩ = some (.int .u32 (rd_T35 xs i).f2.f3.f1.f2) ∧ w.cell? ⟨(ad.add (i.toNat * 34)).block, (ad.add (i.toNat * 34)).off + 16, none⟩ = some (.int .i64 (rd_T35 xs i).f2.f3.f2.f0) ∧ w.cell? ⟨(ad.add (i.toNat * 34)).block, (ad.add (i.toNat * 34)).off + 17, none⟩ = some (.int .i64 (rd_T35 xs i).f2.f3.f2.f1) ∧ w.cell? ⟨(ad.add (i.toNat * 34)).block, (ad.add (i.toNat * 34)).off + 18, none⟩ = some (.int .u32 (rd_T35 xs i).f2.f3.f2.f2) ∧ w.cell? ⟨(ad.add (i.toNat * 34)).block, (ad.add (i.toNat * 34)).off + 19, none⟩ = some (.int .i64 (rd_T35 xs i).f2.f3.f3.f0) ∧ w.cell? ⟨(ad.add (i.toNat * 34)).block, (ad.add (i.toNat * 34)).off + 20, none⟩ = some (.int .i64 (rd_T35 xs i).f2.f3.f3.f1) ∧ w.cell? ⟨(ad.add (i.toNat * 34)).block, (ad.add (i.toNat * 34)).off + 21, none⟩ = some (.int .u32 (rd_T35 xs i).f2.f3.f3.f2) ∧ w.cell? ⟨(ad.add (i.toNat * 34)).block, (ad.add (i.toNat * 34)).off + 22, none⟩ = some (.int .i64 (rd_T35 xs i).f2.f4) ∧ w.cell? ⟨(ad.add (i.toNat * 34)).block, (ad.add (i.toNat * 34)).off + 23, none⟩ = some (.int .i64 (rd_T35 xs i).f2.f5) ∧ w.cell? ⟨(ad.add (i.toNat * 34)).block, (ad.add (i.toNat * 34)).off + 24, none⟩ = some (.int .i64 (rd_T35 xs i).f2.f6) ∧ w.cell? ⟨(ad.add (i.toNat * 34)).block, (ad.add (i.toNat * 34)).off + 25, none⟩ = some (.bool (rd_T35 xs i).f2.f7) ∧ w.cell? ⟨(ad.add (i.toNat * 34)).block, (ad.add (i.toNat * 34)).off + 26, none⟩ = some (.bool (rd_T35 xs i).f2.f8) ∧ w.cell? ⟨(ad.add (i.toNat * 34)).block, (ad.add (i.toNat * 34)).off + 27, none⟩ = some (.int .i64 (rd_T35 xs i).f2.f9.f0) ∧ w.cell? ⟨(ad.add (i.toNat * 34)).block, (ad.add (i.toNat * 34)).off + 28, none⟩ = some (.int .i64 (rd_T35 xs i).f2.f9.f1) ∧ w.cell? ⟨(ad.add (i.toNat * 34)).block, (ad.add (i.toNat * 34)).off + 29, none⟩ = some (.bool (rd_T35 xs i).f2.f10) ∧ w.cell? ⟨(ad.add (i.toNat * 34)).block, (ad.add (i.toNat * 34)).off + 30, none⟩ = some (.bool (rd_T35 xs i).f2.f11) ∧ w.cell? ⟨(ad.add (i.toNat * 34)).block, (ad.add (i.toNat * 34)).off + 31, none⟩ = some (.slice A31 (rd_T35 xs i).f3.length c31) ∧ w.cell? ⟨(ad.add (i.toNat * 34)).block, (ad.add (i.toNat * 34)).off + 32, none⟩ = some (.int .i64 (rd_T35 xs i).f4) ∧ w.cell? ⟨(ad.add (i.toNat * 34)).block, (ad.add (i.toNat * 34)).off + 33, none⟩ = some (.int .i64 (rd_T35 xs i).f5) ∧ (rd_T35 xs i).f1.length ≤ c1 ∧ (Kd.int .i64).C w A1 (rd_T35 xs i).f1.length (rd_T35 xs i).f1 ∧ (rd_T35 xs i).f3.length ≤ c31 ∧ (Kd.int .i64).C w A31 (rd_T35 xs i).f3.length (rd_T35 xs i).f3 := by
  obtain ⟨ad, c, e, _, hK, hc0⟩ := Kd.C_get h z35 i h0 h1
  have hc : ∀ j u, c[j]? = some u → w.cell? (ad.add (i.toNat * 34 + j)) = some u := hc0
  obtain ⟨A1, c1, A31, c31, rfl, l1, g1, l31, g31⟩ := k35_open hK
  exact ⟨ad, A1, c1, A31, c31, e, hc 0 _ rfl, by rw [← add_field _ _ 1 (by omega)]; exact hc 1 _ rfl, by rw [← add_field _ _ 2 (by omega)]; exact hc 2 _ rfl, by rw [← add_field _ _ 3 (by omega)]; exact hc 3 _ rfl, by rw [← add_field _ _ 4 (by omega)]; exact hc 4 _ rfl, by rw [← add_field _ _ 5 (by omega)]; exact hc 5 _ rfl, by rw [← add_field _ _ 6 (by omega)]; exact hc 6 _ rfl, by rw [← add_field _ _ 7 (by omega)]; exact hc 7 _ rfl, by rw [← add_field _ _ 8 (by omega)]; exact hc 8 _ rfl, by rw [← add_field _ _ 9 (by omega)]; exact hc 9 _ rfl, by rw [← add_field _ _ 10 (by omega)]; exact hc 10 _ rfl, by rw [← add_field _ _ 11 (by omega)]; exact hc 11 _ rfl, by rw [← add_field _ _ 12 (by omega)]; exact hc 12 _ rfl, by rw [← add_field _ _ 13 (by omega)]; exact hc 13 _ rfl, by rw [← add_field _ _ 14 (by omega)]; exact hc 14 _ rfl, by rw [← add_field _ _ 15 (by omega)]; exact hc 15 _ rfl, by rw [← add_field _ _ 16 (by omega)]; exact hc 16 _ rfl, by rw [← add_field _ _ 17 (by omega)]; exact hc 17 _ rfl, by rw [← add_field _ _ 18 (by omega)]; exact hc 18 _ rfl, by rw [← add_field _ _ 19 (by omega)]; exact hc 19 _ rfl, by rw [← add_field _ _ 20 (by omega)]; exact hc 20 _ rfl, by rw [← add_field _ _ 21 (by omega)]; exact hc 21 _ rfl, by rw [← add_field _ _ 22 (by omega)]; exact hc 22 _ rfl, by rw [← add_field _ _ 23 (by omega)]; exact hc 23 _ rfl, by rw [← add_field _ _ 24 (by omega)]; exact hc 24 _ rfl, by rw [← add_field _ _ 25 (by omega)]; exact hc 25 _ rfl, by rw [← add_field _ _ 26 (by omega)]; exact hc 26 _ rfl, by rw [← add_field _ _ 27 (by omega)]; exact hc 27 _ rfl, by rw [← add_field _ _ 28 (by omega)]; exact hc 28 _ rfl, by rw [← add_field _ _ 29 (by omega)]; exact hc 29 _ rfl, by rw [← add_field _ _ 30 (by omega)]; exact hc 30 _ rfl, by rw [← add_field _ _ 31 (by omega)]; exact hc 31 _ rfl, by rw [← add_field _ _ 32 (by omega)]; exact hc 32 _ rfl, by rw [← add_field _ _ 33 (by omega)]; exact hc 33 _ rfl, l1, g1, l31, g31⟩

theorem cell_set_map (w : World) (a : Addr) (v : Value) : (w.setCell a v).cell? a = (w.cell? a).map fun _ => v := by
  cases h : w.cell? a with
  | some u => rw [World.cell?_setCell_same w a v h]; rfl
  | none =>
    by_cases hb : ∃ u, (w.setCell a v).cell? a = some u
    · obtain ⟨u, hu⟩ := hb
      exfalso
      revert h hu
      simp only [World.setCell, World.cell?, Array.getElem?_modify, if_true]
      cases w.heap[a.block]? with
      | none => simp
      | some x =>
        cases x <;> simp
        intro h1 h2
        cases hs : a.spot <;> simp_all
    · cases h2 : (w.setCell a v).cell? a with
      | none => rfl
      | some u => exact absurd ⟨u, h2⟩ hb

end Go.Proofs.Yteckkphbgfmolaa.K
