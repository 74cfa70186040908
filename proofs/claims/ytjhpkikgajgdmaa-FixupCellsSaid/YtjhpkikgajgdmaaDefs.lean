/- Plain definitions: styles as data, what the functions of layer 3 compute. No program in sight. -/
import Derived.WalkKit
import Derived.Deep.MidRow
import Derived.Below
import Derived.Laws.Rows
import Derived.Laws.ResultCell
namespace Go.Proofs.Ytjhpkikgajgdmaa
open Go.RowKit

structure Sz where
  k : Int
  n : Int
  deriving DecidableEq

structure Ln where
  s : Int
  w : Int
  c : Int
  deriving DecidableEq

structure Sty where
  wd : Sz
  ht : Sz
  p0 : Int
  p1 : Int
  p2 : Int
  p3 : Int
  b0 : Ln
  b1 : Ln
  b2 : Ln
  b3 : Ln
  cs : Int
  rs : Int
  al : Int
  fx : Bool
  co : Bool
  g0 : Int
  g1 : Int
  hi : Bool
  be : Bool
  deriving DecidableEq

def Sz.v (z : Sz) : Value := .agg #[.int .i64 z.k, .int .i64 z.n]
def Ln.v (z : Ln) : Value := .agg #[.int .i64 z.s, .int .i64 z.w, .int .u32 z.c]

/-- the cells of a style -/
def Sty.cells (s : Sty) : Array Value :=
  #[.int .i64 s.wd.k, .int .i64 s.wd.n, .int .i64 s.ht.k, .int .i64 s.ht.n, .int .i64 s.p0, .int .i64 s.p1, .int .i64 s.p2, .int .i64 s.p3,
    .int .i64 s.b0.s, .int .i64 s.b0.w, .int .u32 s.b0.c, .int .i64 s.b1.s, .int .i64 s.b1.w, .int .u32 s.b1.c,
    .int .i64 s.b2.s, .int .i64 s.b2.w, .int .u32 s.b2.c, .int .i64 s.b3.s, .int .i64 s.b3.w, .int .u32 s.b3.c,
    .int .i64 s.cs, .int .i64 s.rs, .int .i64 s.al, .bool s.fx, .bool s.co, .int .i64 s.g0, .int .i64 s.g1, .bool s.hi, .bool s.be]

def withinB (least most : Int) (zs : List Int) : Bool := zs.all fun n => decide (least ≤ n) && decide (n ≤ most)
def lenB (n : Int) : Bool := decide (-1073741824 ≤ n) && decide (n ≤ 1073741824)
def sizeB (z : Sz) : Bool := if z.k = 1 then lenB z.n else if z.k = 2 then decide (0 ≤ z.n) && decide (z.n ≤ 10000000) else decide (z.k = 0)
def lineB (p : Int) (b : Ln) : Bool := lenB p && lenB b.w && decide (0 ≤ b.s) && decide (b.s ≤ 9)
def validB (s : Sty) : Bool :=
  sizeB s.wd && sizeB s.ht && lenB s.g0 && lenB s.g1 && decide (-1000 ≤ s.cs) && decide (s.cs ≤ 1000) && decide (-1000 ≤ s.rs) && decide (s.rs ≤ 1000) &&
  decide (0 ≤ s.al) && decide (s.al ≤ 3) && lineB s.p0 s.b0 && lineB s.p1 s.b1 && lineB s.p2 s.b2 && lineB s.p3 s.b3

def sizeC (z : Sz) : Sz := if z.k = 0 then ⟨0, 0⟩ else ⟨z.k, max z.n 0⟩
def lineC (b : Ln) : Ln := ⟨b.s, if b.s = 0 ∨ b.s = 1 then 0 else max b.w 0, b.c⟩
def styC (s : Sty) : Sty :=
  { wd := sizeC s.wd, ht := sizeC s.ht, p0 := max s.p0 0, p1 := max s.p1 0, p2 := max s.p2 0, p3 := max s.p3 0,
    b0 := lineC s.b0, b1 := lineC s.b1, b2 := lineC s.b2, b3 := lineC s.b3, cs := max s.cs 1, rs := if s.rs < 0 then 1 else s.rs, al := s.al, fx := s.fx, co := s.co,
    g0 := max s.g0 0, g1 := max s.g1 0, hi := s.hi, be := s.be }
def zeroSty : Sty := ⟨⟨0, 0⟩, ⟨0, 0⟩, 0, 0, 0, 0, ⟨0, 0, 0⟩, ⟨0, 0, 0⟩, ⟨0, 0, 0⟩, ⟨0, 0, 0⟩, 0, 0, 0, false, false, 0, 0, false, false⟩

/-- the slice value v reads as the int64 list zs in w -/
def Ints (w : World) (v : Value) (zs : List Int) : Prop :=
  ∃ b off n cap : Nat, v = .slice (some ⟨b, off, none⟩) n cap ∧ n = zs.length ∧ n ≤ 1000000000 ∧ ∀ (k : Nat) (x : Int), zs[k]? = some x → w.cell? ⟨b, off + k, none⟩ = some (.int .i64 x)

theorem ints_one (w : World) (a : Int) (t : TypeId) (b : Nat) (hb : b = w.heap.size) : Ints (w.alloc (.cells #[.int .i64 a] t)) (.slice (some ⟨b, 0, none⟩) 1 1) [a] :=
  ⟨b, 0, 1, 1, rfl, rfl, by decide, fun k x h => by
    subst hb
    match k, h with
    | 0, h => simp at h; subst h; simp⟩

theorem ints_two (w : World) (a c : Int) (t : TypeId) (b : Nat) (hb : b = w.heap.size) : Ints (w.alloc (.cells #[.int .i64 a, .int .i64 c] t)) (.slice (some ⟨b, 0, none⟩) 2 2) [a, c] :=
  ⟨b, 0, 2, 2, rfl, rfl, by decide, fun k x h => by
    subst hb
    match k, h with
    | 0, h => simp at h; subst h; simp
    | 1, h => simp at h; subst h; simp⟩

theorem ints_pair {w : World} {b o : Nat} {a c : Int} {cap : Nat} (h0 : w.cell? ⟨b, o, none⟩ = some (.int .i64 a)) (h1 : w.cell? ⟨b, o + 1, none⟩ = some (.int .i64 c)) :
    Ints w (.slice (some ⟨b, o, none⟩) 2 cap) [a, c] :=
  ⟨b, o, 2, cap, rfl, rfl, by decide, fun k x h => by
    match k, h with
    | 0, h => simp at h; subst h; exact h0
    | 1, h => simp at h; subst h; exact h1⟩

/-- block b holds the cells cs from offset o on -/
theorem rangeAt_below {w w' : World} {b o B : Nat} {cs : List Value} (h : w.rangeAt b o cs) (hb : Below B w w') (hB : b < B) : w'.rangeAt b o cs := fun j v hv => (hb.cell (p := ⟨b, o + j, none⟩) hB).trans (h j v hv)
theorem rangeAt_same {w w' : World} {b o : Nat} {cs : List Value} (h : w.rangeAt b o cs) (hc : ∀ a, w'.cell? a = w.cell? a) : w'.rangeAt b o cs := fun j v hv => (hc _).trans (h j v hv)
theorem rangeAt_new (w : World) (c : Array Value) (t : TypeId) : (w.alloc (.cells c t)).rangeAt w.heap.size 0 c.toList := fun j v hv => by
  simpa using hv
theorem rangeAt_setCell {w : World} {b o : Nat} {cs : List Value} (h : w.rangeAt b o cs) {p : Addr} (hl : p.block ≠ b) (v : Value) : (w.setCell p v).rangeAt b o cs := fun j x hj =>
  (World.cell?_setCell_other w p ⟨b, o + j, none⟩ v (by intro e; rw [e] at hl; exact hl rfl)).trans (h j x hj)

/-- block b holds the style s from offset o on -/
def StyAt (b o : Nat) (s : Sty) (w : World) : Prop := w.rangeAt b o s.cells.toList
theorem StyAt.below {b o : Nat} {s : Sty} {w w' : World} {B : Nat} (h : StyAt b o s w) (hb : Below B w w') (hB : b < B) : StyAt b o s w' := rangeAt_below h hb hB
theorem StyAt.alloc {b o : Nat} {s : Sty} {w : World} (h : StyAt b o s w) (ob : Obj) : StyAt b o s (w.alloc ob) := World.rangeAt_alloc h ob
theorem StyAt.same {b o : Nat} {s : Sty} {w w' : World} (h : StyAt b o s w) (hc : ∀ a, w'.cell? a = w.cell? a) : StyAt b o s w' := rangeAt_same h hc
theorem StyAt.setCell {b o : Nat} {s : Sty} {w : World} (h : StyAt b o s w) {p : Addr} (hl : p.block ≠ b) (v : Value) : StyAt b o s (w.setCell p v) := rangeAt_setCell h hl v
theorem styAt_new (s : Sty) (w : World) (t : TypeId) : StyAt w.heap.size 0 s (w.alloc (.cells s.cells t)) := rangeAt_new w s.cells t
theorem StyAt.at_ {b o : Nat} {s : Sty} {w : World} (h : StyAt b o s w) (j : Nat) {v : Value} (hv : s.cells.toList[j]? = some v) : w.cell? ⟨b, o + j, none⟩ = some v := h j v hv
theorem StyAt.spacing {b o : Nat} {s : Sty} {w : World} (h : StyAt b o s w) : Ints w (.slice (some ⟨b, o + 25, none⟩) 2 2) [s.g0, s.g1] := ints_pair (h 25 _ rfl) (h 26 _ rfl)

def Sty.sides (s : Sty) : List (Int × Ln) := [(s.p0, s.b0), (s.p1, s.b1), (s.p2, s.b2), (s.p3, s.b3)]
theorem validB_eq (s : Sty) : validB s = (sizeB s.wd && sizeB s.ht && withinB (-1073741824) 1073741824 [s.g0, s.g1] && withinB (-1000) 1000 [s.cs, s.rs] && withinB 0 3 [s.al] && s.sides.all fun x => lineB x.1 x.2) := by
  rw [Bool.eq_iff_iff]
  simp only [validB, withinB, lenB, Sty.sides, List.all_cons, List.all_nil, Bool.and_eq_true, decide_eq_true_eq, Bool.and_true]
  constructor
  · rintro ⟨⟨⟨⟨⟨⟨⟨⟨⟨⟨⟨⟨⟨h1, h2⟩, h3, h3'⟩, h4, h4'⟩, h5⟩, h6⟩, h7⟩, h8⟩, h9⟩, h10⟩, h11⟩, h12⟩, h13⟩, h14⟩
    exact ⟨⟨⟨⟨⟨h1, h2⟩, ⟨h3, h3'⟩, h4, h4'⟩, ⟨h5, h6⟩, h7, h8⟩, h9, h10⟩, h11, h12, h13, h14⟩
  · rintro ⟨⟨⟨⟨⟨h1, h2⟩, ⟨h3, h3'⟩, h4, h4'⟩, ⟨h5, h6⟩, h7, h8⟩, h9, h10⟩, h11, h12, h13, h14⟩
    exact ⟨⟨⟨⟨⟨⟨⟨⟨⟨⟨⟨⟨⟨h1, h2⟩, h3, h3'⟩, h4, h4'⟩, h5⟩, h6⟩, h7⟩, h8⟩, h9⟩, h10⟩, h11⟩, h12⟩, h13⟩, h14⟩

/-- block b is the cells cs, of type t -/
def Blk (w : World) (b : Nat) (t : TypeId) (cs : Array Value) : Prop := w.heap[b]? = some (.cells cs t (0, 0))
theorem Blk.lt {w : World} {b : Nat} {t : TypeId} {cs : Array Value} (h : Blk w b t cs) : b < w.heap.size := (Array.getElem?_eq_some_iff.1 h).1
theorem Blk.cell {w : World} {b : Nat} {t : TypeId} {cs : Array Value} (h : Blk w b t cs) (j : Nat) : w.cell? ⟨b, j, none⟩ = cs[j]? := cell_of_row w b j cs t (0, 0) h
theorem Blk.frozen {w : World} {b : Nat} {t : TypeId} {cs : Array Value} (h : Blk w b t cs) (j : Nat) : w.frozen? ⟨b, j, none⟩ = false := frozen_of_row w b j cs t h
theorem Blk.new (w : World) (t : TypeId) (cs : Array Value) : Blk (w.alloc (.cells cs t)) w.heap.size t cs := by
  show (w.heap.push _)[w.heap.size]? = _
  simp
theorem Blk.alloc {w : World} {b : Nat} {t : TypeId} {cs : Array Value} (h : Blk w b t cs) (o : Obj) : Blk (w.alloc o) b t cs := (Below.heap_alloc w o b h.lt).trans h
theorem Blk.below {w w' : World} {b B : Nat} {t : TypeId} {cs : Array Value} (h : Blk w b t cs) (hb : Below B w w') (hB : b < B) : Blk w' b t cs := (hb.block b hB).trans h
theorem Blk.drew {w : World} {b : Nat} {t : TypeId} {cs : Array Value} (h : Blk w b t cs) : Blk w.drew b t cs := h
theorem Blk.set {w : World} {b : Nat} {t : TypeId} {cs : Array Value} (h : Blk w b t cs) (i : Nat) (v : Value) : Blk (w.setCell ⟨b, i, none⟩ v) b t (cs.setIfInBounds i v) := heap_setCell_same w b i cs t v h
theorem Blk.set' {w : World} {b : Nat} {t : TypeId} {cs cs' : Array Value} (h : Blk w b t cs) (i : Nat) (v : Value) (e : cs' = cs.setIfInBounds i v) : Blk (w.setCell ⟨b, i, none⟩ v) b t cs' := e ▸ h.set i v
theorem Blk.other {w : World} {b : Nat} {t : TypeId} {cs : Array Value} (h : Blk w b t cs) {p : Addr} (hp : b ≠ p.block) (v : Value) : Blk (w.setCell p v) b t cs := (heap_setCell_other w p b v hp).trans h
theorem Blk.range {w : World} {b : Nat} {t : TypeId} {cs : Array Value} (h : Blk w b t cs) : w.rangeAt b 0 cs.toList := fun j v hv => by
  rw [Nat.zero_add, h.cell]; simpa using hv
theorem Blk.sty {w : World} {b : Nat} {t : TypeId} {s : Sty} (h : Blk w b t s.cells) : StyAt b 0 s w := h.range
theorem Blk.boxed {w : World} {b : Nat} {t : TypeId} {v : Value} (h : Blk w b t #[v]) : w.cell? ⟨b, 0, none⟩ = some v := by rw [h.cell]; rfl

/-- a style whose first k sides are those of c -/
def mixS (k : Nat) (s c : Sty) : Sty :=
  { s with wd := c.wd, ht := c.ht, p0 := if 0 < k then c.p0 else s.p0, p1 := if 1 < k then c.p1 else s.p1, p2 := if 2 < k then c.p2 else s.p2, p3 := if 3 < k then c.p3 else s.p3,
           b0 := if 0 < k then c.b0 else s.b0, b1 := if 1 < k then c.b1 else s.b1, b2 := if 2 < k then c.b2 else s.b2, b3 := if 3 < k then c.b3 else s.b3 }

theorem blk_setCells_aux {b : Nat} {t : TypeId} : ∀ (vs : List Value) (o : Nat) (w : World) (cs : Array Value), Blk w b t cs → o + vs.length = cs.size → Blk (w.setCells b o vs) b t (cs.toList.take o ++ vs).toArray
  | [], o, w, cs, h, hn => by
    have e : (cs.toList.take o ++ []).toArray = cs := by
      have ho : o = cs.toList.length := by simpa using hn
      rw [ho, List.take_length]; simp
    rw [e]; exact h
  | v :: vs, o, w, cs, h, hn => by
    have := blk_setCells_aux vs (o + 1) (w.setCell ⟨b, o, none⟩ v) (cs.setIfInBounds o v) (h.set o v) (by simp at hn ⊢; omega)
    have e : ((cs.setIfInBounds o v).toList.take (o + 1) ++ vs).toArray = (cs.toList.take o ++ v :: vs).toArray := by
      have ho : o < cs.toList.length := by simp at hn ⊢; omega
      congr 1
      rw [Array.toList_setIfInBounds, List.take_succ_eq_append_getElem (by simpa using ho)]
      simp [List.take_set_of_le]
    rw [e] at this
    exact this
/-- a whole block is stored -/
theorem Blk.setCells {w : World} {b : Nat} {t : TypeId} {cs : Array Value} (h : Blk w b t cs) (vs : List Value) (hn : vs.length = cs.size) : Blk (w.setCells b 0 vs) b t vs.toArray := by
  have := blk_setCells_aux vs 0 w cs h (by omega)
  simpa using this
theorem Blk.setCells_other {b b' : Nat} {t : TypeId} {cs : Array Value} (hne : b ≠ b') : ∀ (vs : List Value) (o : Nat) {w : World}, Blk w b t cs → Blk (w.setCells b' o vs) b t cs
  | [], _, _, h => h
  | v :: vs, o, _, h => Blk.setCells_other hne vs (o + 1) (h.other (p := ⟨b', o, none⟩) hne v)
theorem below_setCells' {B : Nat} {a : World} {b : Nat} (hb : B ≤ b) : ∀ (vs : List Value) (o : Nat) {w : World}, Below B a w → Below B a (w.setCells b o vs)
  | [], _, _, h => h
  | v :: vs, o, _, h => below_setCells' hb vs (o + 1) (h.setCell (p := ⟨b, o, none⟩) hb v)
theorem setCells_size (b : Nat) : ∀ (vs : List Value) (o : Nat) (w : World), (w.setCells b o vs).heap.size = w.heap.size
  | [], _, _ => rfl
  | v :: vs, o, w => by rw [World.setCells, setCells_size b vs (o + 1)]; simp
theorem Blk.there {w : World} {b : Nat} {t : TypeId} {cs : Array Value} (h : Blk w b t cs) (n : Nat) (hn : n ≤ cs.size) : w.there b 0 n := fun j hj => by
  rw [Nat.zero_add, h.cell, h.frozen]
  simp; omega

theorem results_cell_tmp_mid {P : Program} {fn : Func} {p u : Tmp} {ty : TypeId} (h : fn.results = #[.cell p ty, .tmp u]) (tmps : Array Value) (w : World) (b o : Nat) (cs : List Value) (d : TypeDesc)
    (hp : tmps.getD p undef = .pointer (some ⟨b, o, none⟩)) (hc : w.rangeAt b o cs) (hu : P.underlying ty = some d) (hd : d.isRow = true) (hi : (P.info? ty).map (·.size) = some cs.length) :
    (results fn tmps).run P w = .ok (.tuple #[.agg cs.toArray, tmps.getD u undef]) w := by
  have e := run_loadVar_mid w b o ty cs d hc hu hd hi
  rw [results_cell_tmp h, hp]
  simp [asAddr, e, Result.andThen]
theorem results_cell_mid {P : Program} {fn : Func} {p : Tmp} {ty : TypeId} (h : fn.results = #[.cell p ty]) (tmps : Array Value) (w : World) (b o : Nat) (cs : List Value) (d : TypeDesc)
    (hp : tmps.getD p undef = .pointer (some ⟨b, o, none⟩)) (hc : w.rangeAt b o cs) (hu : P.underlying ty = some d) (hd : d.isRow = true) (hi : (P.info? ty).map (·.size) = some cs.length) :
    (results fn tmps).run P w = .ok (.agg cs.toArray) w := by
  have e := run_loadVar_mid w b o ty cs d hc hu hd hi
  have hp' : tmps[p]?.getD undef = .pointer (some ⟨b, o, none⟩) := by simpa using hp
  simp [results, h, hp', asAddr, e]

theorem max0 (a : Int) : max a 0 = if a < 0 then 0 else a := by split <;> omega
theorem max1 (a : Int) : max a 1 = if a < 1 then 1 else a := by split <;> omega

/-- behind the sides, the first k gaps -/
def mixG (k : Nat) (s c : Sty) : Sty := { mixS 4 s c with g0 := if 0 < k then c.g0 else s.g0, g1 := if 1 < k then c.g1 else s.g1 }

theorem sty_one (s : Sty) : s.cells.all (·.oneCell') = true := by simp [Sty.cells, Value.oneCell']

end Go.Proofs.Ytjhpkikgajgdmaa
