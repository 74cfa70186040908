-- PRINTED by print.py (a twelfth state) out of the translation. Not trusted: Lean checks it.
import Derived.Test.YtdmnaehgngpikaaProg
import Derived.Below
import Derived.Deep.Draws
import Derived.Deep.AppendLies
import Derived.Maps.AppendAt
import Derived.OwnWalk
import Derived.Laws.BytesArg
import Derived.Laws.MakeOwn
import Derived.Laws.OwnMore
import Derived.Deep.OwnRows
import Derived.Tactics
import Derived.Lib.ConvBytes
import Derived.Laws.Slices
import Derived.WalkKit
import Derived.KernelRfl
import Derived.RowKit3
import Derived.Deep.LoopGhost
import Derived.Deep.QuietTactic
import Derived.BigQuiet
import Derived.WideLaws
import Derived.Deep.DeepCutAuto
import Derived.Deep.CutBlock
import Derived.Deep.RegionHeld3
import Derived.Laws.Rows
import Derived.Lib.AppendStr
import Derived.ArgAppend
import Derived.Laws.IdiomCopy
import Derived.OrdersHeld
import Derived.Laws.BitsLemmas
import Derived.RowKit
import Derived.Test.YtdmnaehgngpikaaWd
namespace Go.Proofs.Ytdmnaehgngpikaa.K
open Go.RowKit Go.Proofs.YtdmnaehgngpikaaW.PrintWords Go.Proofs.YtdmnaehgngpikaaW.PrintLast Go.Proofs.YtdmnaehgngpikaaW.PrintMore
attribute [local go_sem] max2_int min2_int max_two min_two max_three min_three max_four min_four   -- for this text's walks alone
set_option linter.unusedVariables false
set_option linter.unusedSimpArgs false
def errW : Option Int → Value
  | none => .nilIface
  | some c => .iface 0 (.int .i64 c)
theorem errW_none : errW none = .nilIface := rfl
theorem errW_some (c : Int) : errW (some c) = .iface 0 (.int .i64 c) := rfl
theorem info3 : (Try.prog.info? 3).map (fun i => (i.zero, i.size, i.bytes)) = some (some (.int .i64 0), 1, 8) := by kernel_rfl
theorem info48 : (Try.prog.info? 48).map (fun i => (i.zero, i.size, i.bytes)) = some (some (.agg #[(.int .i64 0), (.slice none 0 0), (.int .i64 0), (.int .i64 0), (.int .i64 0), (.int .i64 0), (.int .i64 0), (.int .i64 0), (.int .i64 0), (.int .i64 0), (.int .i64 0), (.int .i64 0), (.int .u32 0), (.int .i64 0), (.int .i64 0), (.int .u32 0), (.int .i64 0), (.int .i64 0), (.int .u32 0), (.int .i64 0), (.int .i64 0), (.int .u32 0), (.int .i64 0), (.int .i64 0), (.int .i64 0), (.bool false), (.bool false), (.int .i64 0), (.int .i64 0), (.bool false), (.bool false), (.slice none 0 0), (.int .i64 0), (.int .i64 0)]), 34, 288) := by kernel_rfl
-- the values' own types
/-! #### struct type 35 -/
structure S35 where
  f0 : Int
  f1 : Int
def z35 : S35 := ⟨(0 : Int), (0 : Int)⟩
def k35 : Kd S35 := Kd.iso (Kd.pair (Kd.int .i64) (Kd.int .i64)) (fun x : S35 => (x.f0, x.f1))
theorem k35_open {w : World} {x : S35} {cs : List Value} (h : k35.K w x cs) : cs = [.int .i64 x.f0, .int .i64 x.f1] := by
  obtain ⟨_, _, rfl, rfl, rfl⟩ := h
  exact rfl
theorem k35_mk (w : World) (x : S35)  : k35.K w x [.int .i64 x.f0, .int .i64 x.f1] := ⟨[.int .i64 x.f0], [.int .i64 x.f1], rfl, rfl, rfl⟩
theorem k35_mkM (w : World) (base : Nat) (ok : Nat → Prop) (x : S35)  : k35.M w base ok x [.int .i64 x.f0, .int .i64 x.f1] := ⟨[.int .i64 x.f0], [.int .i64 x.f1], rfl, rfl, rfl⟩
def rd_T35 (xs : List S35) (i : Int) : S35 := xs.getD i.toNat z35
theorem at_T35 {w : World} {A : Option Addr} {n : Nat} {xs : List S35} (h : Kd.C k35 w A n xs) (i : Int) (h0 : 0 ≤ i) (h1 : i < n) : ∃ ad , A = some ad ∧ w.cell? (ad.add (i.toNat * 2)) = some (.int .i64 (rd_T35 xs i).f0) ∧ w.cell? ⟨(ad.add (i.toNat * 2)).block, (ad.add (i.toNat * 2)).off + 1, none⟩ = some (.int .i64 (rd_T35 xs i).f1) := by
  obtain ⟨ad, c, e, _, hK, hc0⟩ := Kd.C_get h z35 i h0 h1
  have hc : ∀ j u, c[j]? = some u → w.cell? (ad.add (i.toNat * 2 + j)) = some u := hc0
  obtain rfl := k35_open hK
  exact ⟨ad, e, hc 0 _ rfl, by rw [← add_field _ _ 1 (by omega)]; exact hc 1 _ rfl⟩
/-! #### struct type 37 -/
structure S37 where
  f0 : Int
  f1 : Int
def z37 : S37 := ⟨(0 : Int), (0 : Int)⟩
def k37 : Kd S37 := Kd.iso (Kd.pair (Kd.int .i64) (Kd.int .i64)) (fun x : S37 => (x.f0, x.f1))
theorem k37_open {w : World} {x : S37} {cs : List Value} (h : k37.K w x cs) : cs = [.int .i64 x.f0, .int .i64 x.f1] := by
  obtain ⟨_, _, rfl, rfl, rfl⟩ := h
  exact rfl
theorem k37_mk (w : World) (x : S37)  : k37.K w x [.int .i64 x.f0, .int .i64 x.f1] := ⟨[.int .i64 x.f0], [.int .i64 x.f1], rfl, rfl, rfl⟩
/-! #### struct type 38 -/
structure S38 where
  f0 : Int
  f1 : Int
  f2 : Int
  f3 : Int
def z38 : S38 := ⟨(0 : Int), (0 : Int), (0 : Int), (0 : Int)⟩
def k38 : Kd S38 := Kd.iso (Kd.pair (Kd.int .i64) (Kd.pair (Kd.int .i64) (Kd.pair (Kd.int .i64) (Kd.int .i64)))) (fun x : S38 => (x.f0, x.f1, x.f2, x.f3))
theorem k38_open {w : World} {x : S38} {cs : List Value} (h : k38.K w x cs) : cs = [.int .i64 x.f0, .int .i64 x.f1, .int .i64 x.f2, .int .i64 x.f3] := by
  obtain ⟨_, _, rfl, rfl, ⟨_, _, rfl, rfl, ⟨_, _, rfl, rfl, rfl⟩⟩⟩ := h
  exact rfl
theorem k38_mk (w : World) (x : S38)  : k38.K w x [.int .i64 x.f0, .int .i64 x.f1, .int .i64 x.f2, .int .i64 x.f3] := ⟨[.int .i64 x.f0], [.int .i64 x.f1, .int .i64 x.f2, .int .i64 x.f3], rfl, rfl, ⟨[.int .i64 x.f1], [.int .i64 x.f2, .int .i64 x.f3], rfl, rfl, ⟨[.int .i64 x.f2], [.int .i64 x.f3], rfl, rfl, rfl⟩⟩⟩
/-! #### struct type 41 -/
structure S41 where
  f0 : Int
  f1 : Int
  f2 : Int
def z41 : S41 := ⟨(0 : Int), (0 : Int), (0 : Int)⟩
def k41 : Kd S41 := Kd.iso (Kd.pair (Kd.int .i64) (Kd.pair (Kd.int .i64) (Kd.int .u32))) (fun x : S41 => (x.f0, x.f1, x.f2))
theorem k41_open {w : World} {x : S41} {cs : List Value} (h : k41.K w x cs) : cs = [.int .i64 x.f0, .int .i64 x.f1, .int .u32 x.f2] := by
  obtain ⟨_, _, rfl, rfl, ⟨_, _, rfl, rfl, rfl⟩⟩ := h
  exact rfl
theorem k41_mk (w : World) (x : S41)  : k41.K w x [.int .i64 x.f0, .int .i64 x.f1, .int .u32 x.f2] := ⟨[.int .i64 x.f0], [.int .i64 x.f1, .int .u32 x.f2], rfl, rfl, ⟨[.int .i64 x.f1], [.int .u32 x.f2], rfl, rfl, rfl⟩⟩
/-! #### struct type 42 -/
structure S42 where
  f0 : S41
  f1 : S41
  f2 : S41
  f3 : S41
def z42 : S42 := ⟨z41, z41, z41, z41⟩
def k42 : Kd S42 := Kd.iso (Kd.pair k41 (Kd.pair k41 (Kd.pair k41 k41))) (fun x : S42 => (x.f0, x.f1, x.f2, x.f3))
theorem k42_open {w : World} {x : S42} {cs : List Value} (h : k42.K w x cs) : cs = [.int .i64 x.f0.f0, .int .i64 x.f0.f1, .int .u32 x.f0.f2, .int .i64 x.f1.f0, .int .i64 x.f1.f1, .int .u32 x.f1.f2, .int .i64 x.f2.f0, .int .i64 x.f2.f1, .int .u32 x.f2.f2, .int .i64 x.f3.f0, .int .i64 x.f3.f1, .int .u32 x.f3.f2] := by
  obtain ⟨_, _, rfl, s0, ⟨_, _, rfl, s3, ⟨_, _, rfl, s6, s9⟩⟩⟩ := h
  obtain rfl := k41_open s0
  obtain rfl := k41_open s3
  obtain rfl := k41_open s6
  obtain rfl := k41_open s9
  exact rfl
theorem k42_mk (w : World) (x : S42)  : k42.K w x [.int .i64 x.f0.f0, .int .i64 x.f0.f1, .int .u32 x.f0.f2, .int .i64 x.f1.f0, .int .i64 x.f1.f1, .int .u32 x.f1.f2, .int .i64 x.f2.f0, .int .i64 x.f2.f1, .int .u32 x.f2.f2, .int .i64 x.f3.f0, .int .i64 x.f3.f1, .int .u32 x.f3.f2] := ⟨[.int .i64 x.f0.f0, .int .i64 x.f0.f1, .int .u32 x.f0.f2], [.int .i64 x.f1.f0, .int .i64 x.f1.f1, .int .u32 x.f1.f2, .int .i64 x.f2.f0, .int .i64 x.f2.f1, .int .u32 x.f2.f2, .int .i64 x.f3.f0, .int .i64 x.f3.f1, .int .u32 x.f3.f2], rfl, (k41_mk w x.f0 ), ⟨[.int .i64 x.f1.f0, .int .i64 x.f1.f1, .int .u32 x.f1.f2], [.int .i64 x.f2.f0, .int .i64 x.f2.f1, .int .u32 x.f2.f2, .int .i64 x.f3.f0, .int .i64 x.f3.f1, .int .u32 x.f3.f2], rfl, (k41_mk w x.f1 ), ⟨[.int .i64 x.f2.f0, .int .i64 x.f2.f1, .int .u32 x.f2.f2], [.int .i64 x.f3.f0, .int .i64 x.f3.f1, .int .u32 x.f3.f2], rfl, (k41_mk w x.f2 ), (k41_mk w x.f3 )⟩⟩⟩
/-! #### struct type 43 -/
structure S43 where
  f0 : Int
  f1 : Int
def z43 : S43 := ⟨(0 : Int), (0 : Int)⟩
def k43 : Kd S43 := Kd.iso (Kd.pair (Kd.int .i64) (Kd.int .i64)) (fun x : S43 => (x.f0, x.f1))
theorem k43_open {w : World} {x : S43} {cs : List Value} (h : k43.K w x cs) : cs = [.int .i64 x.f0, .int .i64 x.f1] := by
  obtain ⟨_, _, rfl, rfl, rfl⟩ := h
  exact rfl
theorem k43_mk (w : World) (x : S43)  : k43.K w x [.int .i64 x.f0, .int .i64 x.f1] := ⟨[.int .i64 x.f0], [.int .i64 x.f1], rfl, rfl, rfl⟩
/-! #### struct type 45 -/
structure S45 where
  f0 : S37
  f1 : S37
  f2 : S38
  f3 : S42
  f4 : Int
  f5 : Int
  f6 : Int
  f7 : Bool
  f8 : Bool
  f9 : S43
  f10 : Bool
  f11 : Bool
def z45 : S45 := ⟨z37, z37, z38, z42, (0 : Int), (0 : Int), (0 : Int), false, false, z43, false, false⟩
def k45 : Kd S45 := Kd.iso (Kd.pair k37 (Kd.pair k37 (Kd.pair k38 (Kd.pair k42 (Kd.pair (Kd.int .i64) (Kd.pair (Kd.int .i64) (Kd.pair (Kd.int .i64) (Kd.pair Kd.bool (Kd.pair Kd.bool (Kd.pair k43 (Kd.pair Kd.bool Kd.bool))))))))))) (fun x : S45 => (x.f0, x.f1, x.f2, x.f3, x.f4, x.f5, x.f6, x.f7, x.f8, x.f9, x.f10, x.f11))
theorem k45_open {w : World} {x : S45} {cs : List Value} (h : k45.K w x cs) : cs = [.int .i64 x.f0.f0, .int .i64 x.f0.f1, .int .i64 x.f1.f0, .int .i64 x.f1.f1, .int .i64 x.f2.f0, .int .i64 x.f2.f1, .int .i64 x.f2.f2, .int .i64 x.f2.f3, .int .i64 x.f3.f0.f0, .int .i64 x.f3.f0.f1, .int .u32 x.f3.f0.f2, .int .i64 x.f3.f1.f0, .int .i64 x.f3.f1.f1, .int .u32 x.f3.f1.f2, .int .i64 x.f3.f2.f0, .int .i64 x.f3.f2.f1, .int .u32 x.f3.f2.f2, .int .i64 x.f3.f3.f0, .int .i64 x.f3.f3.f1, .int .u32 x.f3.f3.f2, .int .i64 x.f4, .int .i64 x.f5, .int .i64 x.f6, .bool x.f7, .bool x.f8, .int .i64 x.f9.f0, .int .i64 x.f9.f1, .bool x.f10, .bool x.f11] := by
  obtain ⟨_, _, rfl, s0, ⟨_, _, rfl, s2, ⟨_, _, rfl, s4, ⟨_, _, rfl, s8, ⟨_, _, rfl, rfl, ⟨_, _, rfl, rfl, ⟨_, _, rfl, rfl, ⟨_, _, rfl, rfl, ⟨_, _, rfl, rfl, ⟨_, _, rfl, s25, ⟨_, _, rfl, rfl, rfl⟩⟩⟩⟩⟩⟩⟩⟩⟩⟩⟩ := h
  obtain rfl := k37_open s0
  obtain rfl := k37_open s2
  obtain rfl := k38_open s4
  obtain rfl := k42_open s8
  obtain rfl := k43_open s25
  exact rfl
theorem k45_mk (w : World) (x : S45)  : k45.K w x [.int .i64 x.f0.f0, .int .i64 x.f0.f1, .int .i64 x.f1.f0, .int .i64 x.f1.f1, .int .i64 x.f2.f0, .int .i64 x.f2.f1, .int .i64 x.f2.f2, .int .i64 x.f2.f3, .int .i64 x.f3.f0.f0, .int .i64 x.f3.f0.f1, .int .u32 x.f3.f0.f2, .int .i64 x.f3.f1.f0, .int .i64 x.f3.f1.f1, .int .u32 x.f3.f1.f2, .int .i64 x.f3.f2.f0, .int .i64 x.f3.f2.f1, .int .u32 x.f3.f2.f2, .int .i64 x.f3.f3.f0, .int .i64 x.f3.f3.f1, .int .u32 x.f3.f3.f2, .int .i64 x.f4, .int .i64 x.f5, .int .i64 x.f6, .bool x.f7, .bool x.f8, .int .i64 x.f9.f0, .int .i64 x.f9.f1, .bool x.f10, .bool x.f11] := ⟨[.int .i64 x.f0.f0, .int .i64 x.f0.f1], [.int .i64 x.f1.f0, .int .i64 x.f1.f1, .int .i64 x.f2.f0, .int .i64 x.f2.f1, .int .i64 x.f2.f2, .int .i64 x.f2.f3, .int .i64 x.f3.f0.f0, .int .i64 x.f3.f0.f1, .int .u32 x.f3.f0.f2, .int .i64 x.f3.f1.f0, .int .i64 x.f3.f1.f1, .int .u32 x.f3.f1.f2, .int .i64 x.f3.f2.f0, .int .i64 x.f3.f2.f1, .int .u32 x.f3.f2.f2, .int .i64 x.f3.f3.f0, .int .i64 x.f3.f3.f1, .int .u32 x.f3.f3.f2, .int .i64 x.f4, .int .i64 x.f5, .int .i64 x.f6, .bool x.f7, .bool x.f8, .int .i64 x.f9.f0, .int .i64 x.f9.f1, .bool x.f10, .bool x.f11], rfl, (k37_mk w x.f0 ), ⟨[.int .i64 x.f1.f0, .int .i64 x.f1.f1], [.int .i64 x.f2.f0, .int .i64 x.f2.f1, .int .i64 x.f2.f2, .int .i64 x.f2.f3, .int .i64 x.f3.f0.f0, .int .i64 x.f3.f0.f1, .int .u32 x.f3.f0.f2, .int .i64 x.f3.f1.f0, .int .i64 x.f3.f1.f1, .int .u32 x.f3.f1.f2, .int .i64 x.f3.f2.f0, .int .i64 x.f3.f2.f1, .int .u32 x.f3.f2.f2, .int .i64 x.f3.f3.f0, .int .i64 x.f3.f3.f1, .int .u32 x.f3.f3.f2, .int .i64 x.f4, .int .i64 x.f5, .int .i64 x.f6, .bool x.f7, .bool x.f8, .int .i64 x.f9.f0, .int .i64 x.f9.f1, .bool x.f10, .bool x.f11], rfl, (k37_mk w x.f1 ), ⟨[.int .i64 x.f2.f0, .int .i64 x.f2.f1, .int .i64 x.f2.f2, .int .i64 x.f2.f3], [.int .i64 x.f3.f0.f0, .int .i64 x.f3.f0.f1, .int .u32 x.f3.f0.f2, .int .i64 x.f3.f1.f0, .int .i64 x.f3.f1.f1, .int .u32 x.f3.f1.f2, .int .i64 x.f3.f2.f0, .int .i64 x.f3.f2.f1, .int .u32 x.f3.f2.f2, .int .i64 x.f3.f3.f0, .int .i64 x.f3.f3.f1, .int .u32 x.f3.f3.f2, .int .i64 x.f4, .int .i64 x.f5, .int .i64 x.f6, .bool x.f7, .bool x.f8, .int .i64 x.f9.f0, .int .i64 x.f9.f1, .bool x.f10, .bool x.f11], rfl, (k38_mk w x.f2 ), ⟨[.int .i64 x.f3.f0.f0, .int .i64 x.f3.f0.f1, .int .u32 x.f3.f0.f2, .int .i64 x.f3.f1.f0, .int .i64 x.f3.f1.f1, .int .u32 x.f3.f1.f2, .int .i64 x.f3.f2.f0, .int .i64 x.f3.f2.f1, .int .u32 x.f3.f2.f2, .int .i64 x.f3.f3.f0, .int .i64 x.f3.f3.f1, .int .u32 x.f3.f3.f2], [.int .i64 x.f4, .int .i64 x.f5, .int .i64 x.f6, .bool x.f7, .bool x.f8, .int .i64 x.f9.f0, .int .i64 x.f9.f1, .bool x.f10, .bool x.f11], rfl, (k42_mk w x.f3 ), ⟨[.int .i64 x.f4], [.int .i64 x.f5, .int .i64 x.f6, .bool x.f7, .bool x.f8, .int .i64 x.f9.f0, .int .i64 x.f9.f1, .bool x.f10, .bool x.f11], rfl, rfl, ⟨[.int .i64 x.f5], [.int .i64 x.f6, .bool x.f7, .bool x.f8, .int .i64 x.f9.f0, .int .i64 x.f9.f1, .bool x.f10, .bool x.f11], rfl, rfl, ⟨[.int .i64 x.f6], [.bool x.f7, .bool x.f8, .int .i64 x.f9.f0, .int .i64 x.f9.f1, .bool x.f10, .bool x.f11], rfl, rfl, ⟨[.bool x.f7], [.bool x.f8, .int .i64 x.f9.f0, .int .i64 x.f9.f1, .bool x.f10, .bool x.f11], rfl, rfl, ⟨[.bool x.f8], [.int .i64 x.f9.f0, .int .i64 x.f9.f1, .bool x.f10, .bool x.f11], rfl, rfl, ⟨[.int .i64 x.f9.f0, .int .i64 x.f9.f1], [.bool x.f10, .bool x.f11], rfl, (k43_mk w x.f9 ), ⟨[.bool x.f10], [.bool x.f11], rfl, rfl, rfl⟩⟩⟩⟩⟩⟩⟩⟩⟩⟩⟩
/-! #### struct type 48 -/
structure S48 where
  f0 : Int
  f1 : (List Int)
  f2 : S45
  f3 : (List Int)
  f4 : Int
  f5 : Int
def z48 : S48 := ⟨(0 : Int), ([] : List Int), z45, ([] : List Int), (0 : Int), (0 : Int)⟩
def k48 : Kd S48 := Kd.iso (Kd.pair (Kd.int .i64) (Kd.pair (Kd.slice 3 (Kd.int .i64)) (Kd.pair k45 (Kd.pair (Kd.slice 2 (Kd.int .i64)) (Kd.pair (Kd.int .i64) (Kd.int .i64)))))) (fun x : S48 => (x.f0, x.f1, x.f2, x.f3, x.f4, x.f5))
theorem k48_open {w : World} {x : S48} {cs : List Value} (h : k48.K w x cs) : ∃ A1 c1 A31 c31, cs = [.int .i64 x.f0, .slice A1 x.f1.length c1, .int .i64 x.f2.f0.f0, .int .i64 x.f2.f0.f1, .int .i64 x.f2.f1.f0, .int .i64 x.f2.f1.f1, .int .i64 x.f2.f2.f0, .int .i64 x.f2.f2.f1, .int .i64 x.f2.f2.f2, .int .i64 x.f2.f2.f3, .int .i64 x.f2.f3.f0.f0, .int .i64 x.f2.f3.f0.f1, .int .u32 x.f2.f3.f0.f2, .int .i64 x.f2.f3.f1.f0, .int .i64 x.f2.f3.f1.f1, .int .u32 x.f2.f3.f1.f2, .int .i64 x.f2.f3.f2.f0, .int .i64 x.f2.f3.f2.f1, .int .u32 x.f2.f3.f2.f2, .int .i64 x.f2.f3.f3.f0, .int .i64 x.f2.f3.f3.f1, .int .u32 x.f2.f3.f3.f2, .int .i64 x.f2.f4, .int .i64 x.f2.f5, .int .i64 x.f2.f6, .bool x.f2.f7, .bool x.f2.f8, .int .i64 x.f2.f9.f0, .int .i64 x.f2.f9.f1, .bool x.f2.f10, .bool x.f2.f11, .slice A31 x.f3.length c31, .int .i64 x.f4, .int .i64 x.f5] ∧ x.f1.length ≤ c1 ∧ (Kd.int .i64).C w A1 x.f1.length x.f1 ∧ x.f3.length ≤ c31 ∧ (Kd.int .i64).C w A31 x.f3.length x.f3 := by
  obtain ⟨_, _, rfl, rfl, ⟨_, _, rfl, ⟨A1, c1, rfl, l1, g1⟩, ⟨_, _, rfl, s2, ⟨_, _, rfl, ⟨A31, c31, rfl, l31, g31⟩, ⟨_, _, rfl, rfl, rfl⟩⟩⟩⟩⟩ := h
  obtain rfl := k45_open s2
  exact ⟨A1, c1, A31, c31, rfl, l1, g1, l31, g31⟩
theorem k48_mk (w : World) (x : S48) {A1 : Option Addr} {c1 : Nat} (l1 : x.f1.length ≤ c1) (g1 : (Kd.int .i64).C w A1 x.f1.length x.f1) {A31 : Option Addr} {c31 : Nat} (l31 : x.f3.length ≤ c31) (g31 : (Kd.int .i64).C w A31 x.f3.length x.f3) : k48.K w x [.int .i64 x.f0, .slice A1 x.f1.length c1, .int .i64 x.f2.f0.f0, .int .i64 x.f2.f0.f1, .int .i64 x.f2.f1.f0, .int .i64 x.f2.f1.f1, .int .i64 x.f2.f2.f0, .int .i64 x.f2.f2.f1, .int .i64 x.f2.f2.f2, .int .i64 x.f2.f2.f3, .int .i64 x.f2.f3.f0.f0, .int .i64 x.f2.f3.f0.f1, .int .u32 x.f2.f3.f0.f2, .int .i64 x.f2.f3.f1.f0, .int .i64 x.f2.f3.f1.f1, .int .u32 x.f2.f3.f1.f2, .int .i64 x.f2.f3.f2.f0, .int .i64 x.f2.f3.f2.f1, .int .u32 x.f2.f3.f2.f2, .int .i64 x.f2.f3.f3.f0, .int .i64 x.f2.f3.f3.f1, .int .u32 x.f2.f3.f3.f2, .int .i64 x.f2.f4, .int .i64 x.f2.f5, .int .i64 x.f2.f6, .bool x.f2.f7, .bool x.f2.f8, .int .i64 x.f2.f9.f0, .int .i64 x.f2.f9.f1, .bool x.f2.f10, .bool x.f2.f11, .slice A31 x.f3.length c31, .int .i64 x.f4, .int .i64 x.f5] := ⟨[.int .i64 x.f0], [.slice A1 x.f1.length c1, .int .i64 x.f2.f0.f0, .int .i64 x.f2.f0.f1, .int .i64 x.f2.f1.f0, .int .i64 x.f2.f1.f1, .int .i64 x.f2.f2.f0, .int .i64 x.f2.f2.f1, .int .i64 x.f2.f2.f2, .int .i64 x.f2.f2.f3, .int .i64 x.f2.f3.f0.f0, .int .i64 x.f2.f3.f0.f1, .int .u32 x.f2.f3.f0.f2, .int .i64 x.f2.f3.f1.f0, .int .i64 x.f2.f3.f1.f1, .int .u32 x.f2.f3.f1.f2, .int .i64 x.f2.f3.f2.f0, .int .i64 x.f2.f3.f2.f1, .int .u32 x.f2.f3.f2.f2, .int .i64 x.f2.f3.f3.f0, .int .i64 x.f2.f3.f3.f1, .int .u32 x.f2.f3.f3.f2, .int .i64 x.f2.f4, .int .i64 x.f2.f5, .int .i64 x.f2.f6, .bool x.f2.f7, .bool x.f2.f8, .int .i64 x.f2.f9.f0, .int .i64 x.f2.f9.f1, .bool x.f2.f10, .bool x.f2.f11, .slice A31 x.f3.length c31, .int .i64 x.f4, .int .i64 x.f5], rfl, rfl, ⟨[.slice A1 x.f1.length c1], [.int .i64 x.f2.f0.f0, .int .i64 x.f2.f0.f1, .int .i64 x.f2.f1.f0, .int .i64 x.f2.f1.f1, .int .i64 x.f2.f2.f0, .int .i64 x.f2.f2.f1, .int .i64 x.f2.f2.f2, .int .i64 x.f2.f2.f3, .int .i64 x.f2.f3.f0.f0, .int .i64 x.f2.f3.f0.f1, .int .u32 x.f2.f3.f0.f2, .int .i64 x.f2.f3.f1.f0, .int .i64 x.f2.f3.f1.f1, .int .u32 x.f2.f3.f1.f2, .int .i64 x.f2.f3.f2.f0, .int .i64 x.f2.f3.f2.f1, .int .u32 x.f2.f3.f2.f2, .int .i64 x.f2.f3.f3.f0, .int .i64 x.f2.f3.f3.f1, .int .u32 x.f2.f3.f3.f2, .int .i64 x.f2.f4, .int .i64 x.f2.f5, .int .i64 x.f2.f6, .bool x.f2.f7, .bool x.f2.f8, .int .i64 x.f2.f9.f0, .int .i64 x.f2.f9.f1, .bool x.f2.f10, .bool x.f2.f11, .slice A31 x.f3.length c31, .int .i64 x.f4, .int .i64 x.f5], rfl, ⟨A1, c1, rfl, l1, g1⟩, ⟨[.int .i64 x.f2.f0.f0, .int .i64 x.f2.f0.f1, .int .i64 x.f2.f1.f0, .int .i64 x.f2.f1.f1, .int .i64 x.f2.f2.f0, .int .i64 x.f2.f2.f1, .int .i64 x.f2.f2.f2, .int .i64 x.f2.f2.f3, .int .i64 x.f2.f3.f0.f0, .int .i64 x.f2.f3.f0.f1, .int .u32 x.f2.f3.f0.f2, .int .i64 x.f2.f3.f1.f0, .int .i64 x.f2.f3.f1.f1, .int .u32 x.f2.f3.f1.f2, .int .i64 x.f2.f3.f2.f0, .int .i64 x.f2.f3.f2.f1, .int .u32 x.f2.f3.f2.f2, .int .i64 x.f2.f3.f3.f0, .int .i64 x.f2.f3.f3.f1, .int .u32 x.f2.f3.f3.f2, .int .i64 x.f2.f4, .int .i64 x.f2.f5, .int .i64 x.f2.f6, .bool x.f2.f7, .bool x.f2.f8, .int .i64 x.f2.f9.f0, .int .i64 x.f2.f9.f1, .bool x.f2.f10, .bool x.f2.f11], [.slice A31 x.f3.length c31, .int .i64 x.f4, .int .i64 x.f5], rfl, (k45_mk w x.f2 ), ⟨[.slice A31 x.f3.length c31], [.int .i64 x.f4, .int .i64 x.f5], rfl, ⟨A31, c31, rfl, l31, g31⟩, ⟨[.int .i64 x.f4], [.int .i64 x.f5], rfl, rfl, rfl⟩⟩⟩⟩⟩
def rd_T48 (xs : List S48) (i : Int) : S48 := xs.getD i.toNat z48
theorem at_T48 {w : World} {A : Option Addr} {n : Nat} {xs : List S48} (h : Kd.C k48 w A n xs) (i : Int) (h0 : 0 ≤ i) (h1 : i < n) : ∃ ad A1 c1 A31 c31, A = some ad ∧ w.cell? (ad.add (i.toNat * 34)) = some (.int .i64 (rd_T48 xs i).f0) ∧ w.cell? ⟨(ad.add (i.toNat * 34)).block, (ad.add (i.toNat * 34)).off + 1, none⟩ = some (.slice A1 (rd_T48 xs i).f1.length c1) ∧ w.cell? ⟨(ad.add (i.toNat * 34)).block, (ad.add (i.toNat * 34)).off + 2, none⟩ = some (.int .i64 (rd_T48 xs i).f2.f0.f0) ∧ w.cell? ⟨(ad.add (i.toNat * 34)).block, (ad.add (i.toNat * 34)).off + 3, none⟩ = some (.int .i64 (rd_T48 xs i).f2.f0.f1) ∧ w.cell? ⟨(ad.add (i.toNat * 34)).block, (ad.add (i.toNat * 34)).off + 4, none⟩ = some (.int .i64 (rd_T48 xs i).f2.f1.f0) ∧ w.cell? ⟨(ad.add (i.toNat * 34)).block, (ad.add (i.toNat * 34)).off + 5, none⟩ = some (.int .i64 (rd_T48 xs i).f2.f1.f1) ∧ w.cell? ⟨(ad.add (i.toNat * 34)).block, (ad.add (i.toNat * 34)).off + 6, none⟩ = some (.int .i64 (rd_T48 xs i).f2.f2.f0) ∧ w.cell? ⟨(ad.add (i.toNat * 34)).block, (ad.add (i.toNat * 34)).off + 7, none⟩ = some (.int .i64 (rd_T48 xs i).f2.f2.f1) ∧ w.cell? ⟨(ad.add (i.toNat * 34)).block, (ad.add (i.toNat * 34)).off + 8, none⟩ = some (.int .i64 (rd_T48 xs i).f2.f2.f2) ∧ w.cell? ⟨(ad.add (i.toNat * 34)).block, (ad.add (i.toNat * 34)).off + 9, none⟩ = some (.int .i64 (rd_T48 xs i).f2.f2.f3) ∧ w.cell? ⟨(ad.add (i.toNat * 34)).block, (ad.add (i.toNat * 34)).off + 10, none⟩ = some (.int .i64 (rd_T48 xs i).f2.f3.f0.f0) ∧ w.cell? ⟨(ad.add (i.toNat * 34)).block, (ad.add (i.toNat * 34)).off + 11, none⟩ = some (.int .i64 (rd_T48 xs i).f2.f3.f0.f1) ∧ w.cell? ⟨(ad.add (i.toNat * 34)).block, (ad.add (i.toNat * 34)).off + 12, none⟩ = some (.int .u32 (rd_T48 xs i).f2.f3.f0.f2) ∧ w.cell? ⟨(ad.add (i.toNat * 34)).block, (ad.add (i.toNat * 34)).off + 13, none⟩ = some (.int .i64 (rd_T48 xs i).f2.f3.f1.f0) ∧ w.cell? ⟨(ad.add (i.toNat * 34)).block, (ad.add (i.toNat * 34)).off + 14, none⟩ = some (.int .i64 (rd_T48 xs i).f2.f3.f1.f1) ∧ w.cell? ⟨(ad.add (i.toNat * 34)).block, (ad.add (i.toNat * 34)).off + 15, none⟩ = some (.int .u32 (rd_T48 xs i).f2.f3.f1.f2) ∧ w.cell? ⟨(ad.add (i.toNat * 34)).block, (ad.add (i.toNat * 34)).off + 16, none⟩ = some (.int .i64 (rd_T48 xs i).f2.f3.f2.f0) ∧ w.cell? ⟨(ad.add (i.toNat * 34)).block, (ad.add (i.toNat * 34)).off + 17, none⟩ = some (.int .i64 (rd_T48 xs i).f2.f3.f2.f1) ∧ w.cell? ⟨(ad.add (i.toNat * 34)).block, (ad.add (i.toNat * 34)).off + 18, none⟩ = some (.int .u32 (rd_T48 xs i).f2.f3.f2.f2) ∧ w.cell? ⟨(ad.add (i.toNat * 34)).block, (ad.add (i.toNat * 34)).off + 19, none⟩ = some (.int .i64 (rd_T48 xs i).f2.f3.f3.f0) ∧ w.cell? ⟨(ad.add (i.toNat * 34)).block, (ad.add (i.toNat * 34)).off + 20, none⟩ = some (.int .i64 (rd_T48 xs i).f2.f3.f3.f1) ∧ w.cell? ⟨(ad.add (i.toNat * 34)).block, (ad.add (i.toNat * 34)).off + 21, none⟩ = some (.int .u32 (rd_T48 xs i).f2.f3.f3.f2) ∧ w.cell? ⟨(ad.add (i.toNat * 34)).block, (ad.add (i.toNat * 34)).off + 22, none⟩ = some (.int .i64 (rd_T48 xs i).f2.f4) ∧ w.cell? ⟨(ad.add (i.toNat * 34)).block, (ad.add (i.toNat * 34)).off + 23, none⟩ = some (.int .i64 (rd_T48 xs i).f2.f5) ∧ w.cell? ⟨(ad.add (i.toNat * 34)).block, (ad.add (i.toNat * 34)).off + 24, none⟩ = some (.int .i64 (rd_T48 xs i).f2.f6) ∧ w.cell? ⟨(ad.add (i.toNat * 34)).block, (ad.add (i.toNat * 34)).off + 25, none⟩ = some (.bool (rd_T48 xs i).f2.f7) ∧ w.cell? ⟨(ad.add (i.toNat * 34)).block, (ad.add (i.toNat * 34)).off + 26, none⟩ = some (.bool (rd_T48 xs i).f2.f8) ∧ w.cell? ⟨(ad.add (i.toNat * 34)).block, (ad.add (i.toNat * 34)).off + 27, none⟩ = some (.int .i64 (rd_T48 xs i).f2.f9.f0) ∧ w.cell? ⟨(ad.add (i.toNat * 34)).block, (ad.add (i.toNat * 34)).off + 28, none⟩ = some (.int .i64 (rd_T48 xs i).f2.f9.f1) ∧ w.cell? ⟨(ad.add (i.toNat * 34)).block, (ad.add (i.toNat * 34)).off + 29, none⟩ = some (.bool (rd_T48 xs i).f2.f10) ∧ w.cell? ⟨(ad.add (i.toNat * 34)).block, (ad.add (i.toNat * 34)).off + 30, none⟩ = some (.bool (rd_T48 xs i).f2.f11) ∧ w.cell? ⟨(ad.add (i.toNat * 34)).block, (ad.add (i.toNat * 34)).off + 31, none⟩ = some (.slice A31 (rd_T48 xs i).f3.length c31) ∧ w.cell? ⟨(ad.add (i.toNat * 34)).block, (ad.add (i.toNat * 34)).off + 32, none⟩ = some (.int .i64 (rd_T48 xs i).f4) ∧ w.cell? ⟨(ad.add (i.toNat * 34)).block, (ad.add (i.toNat * 34)).off + 33, none⟩ = some (.int .i64 (rd_T48 xs i).f5) ∧ (rd_T48 xs i).f1.length ≤ c1 ∧ (Kd.int .i64).C w A1 (rd_T48 xs i).f1.length (rd_T48 xs i).f1 ∧ (rd_T48 xs i).f3.length ≤ c31 ∧ (Kd.int .i64).C w A31 (rd_T48 xs i).f3.length (rd_T48 xs i).f3 := by
  obtain ⟨ad, c, e, _, hK, hc0⟩ := Kd.C_get h z48 i h0 h1
  have hc : ∀ j u, c[j]? = some u → w.cell? (ad.add (i.toNat * 34 + j)) = some u := hc0
  obtain ⟨A1, c1, A31, c31, rfl, l1, g1, l31, g31⟩ := k48_open hK
  exact ⟨ad, A1, c1, A31, c31, e, hc 0 _ rfl, by rw [← add_field _ _ 1 (by omega)]; exact hc 1 _ rfl, by rw [← add_field _ _ 2 (by omega)]; exact hc 2 _ rfl, by rw [← add_field _ _ 3 (by omega)]; exact hc 3 _ rfl, by rw [← add_field _ _ 4 (by omega)]; exact hc 4 _ rfl, by rw [← add_field _ _ 5 (by omega)]; exact hc 5 _ rfl, by rw [← add_field _ _ 6 (by omega)]; exact hc 6 _ rfl, by rw [← add_field _ _ 7 (by omega)]; exact hc 7 _ rfl, by rw [← add_field _ _ 8 (by omega)]; exact hc 8 _ rfl, by rw [← add_field _ _ 9 (by omega)]; exact hc 9 _ rfl, by rw [← add_field _ _ 10 (by omega)]; exact hc 10 _ rfl, by rw [← add_field _ _ 11 (by omega)]; exact hc 11 _ rfl, by rw [← add_field _ _ 12 (by omega)]; exact hc 12 _ rfl, by rw [← add_field _ _ 13 (by omega)]; exact hc 13 _ rfl, by rw [← add_field _ _ 14 (by omega)]; exact hc 14 _ rfl, by rw [← add_field _ _ 15 (by omega)]; exact hc 15 _ rfl, by rw [← add_field _ _ 16 (by omega)]; exact hc 16 _ rfl, by rw [← add_field _ _ 17 (by omega)]; exact hc 17 _ rfl, by rw [← add_field _ _ 18 (by omega)]; exact hc 18 _ rfl, by rw [← add_field _ _ 19 (by omega)]; exact hc 19 _ rfl, by rw [← add_field _ _ 20 (by omega)]; exact hc 20 _ rfl, by rw [← add_field _ _ 21 (by omega)]; exact hc 21 _ rfl, by rw [← add_field _ _ 22 (by omega)]; exact hc 22 _ rfl, by rw [← add_field _ _ 23 (by omega)]; exact hc 23 _ rfl, by rw [← add_field _ _ 24 (by omega)]; exact hc 24 _ rfl, by rw [← add_field _ _ 25 (by omega)]; exact hc 25 _ rfl, by rw [← add_field _ _ 26 (by omega)]; exact hc 26 _ rfl, by rw [← add_field _ _ 27 (by omega)]; exact hc 27 _ rfl, by rw [← add_field _ _ 28 (by omega)]; exact hc 28 _ rfl, by rw [← add_field _ _ 29 (by omega)]; exact hc 29 _ rfl, by rw [← add_field _ _ 30 (by omega)]; exact hc 30 _ rfl, by rw [← add_field _ _ 31 (by omega)]; exact hc 31 _ rfl, by rw [← add_field _ _ 32 (by omega)]; exact hc 32 _ rfl, by rw [← add_field _ _ 33 (by omega)]; exact hc 33 _ rfl, l1, g1, l31, g31⟩
end Go.Proofs.Ytdmnaehgngpikaa.K
