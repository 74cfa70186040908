/- Layer 13: the iterator over needs of one column. -/
import Derived.Test.YtfoocmmjefdojaaCo4
import Derived.Test.YtfoocmmjefdojaaRange
namespace Go.Proofs.Ytfoocmmjefdojaa.K
open Go.RowKit Go.Proofs.YtfoocmmjefdojaaW.PrintWords Go.Proofs.YtfoocmmjefdojaaW.PrintLast Go.Proofs.YtfoocmmjefdojaaW.PrintMore
set_option linter.unusedVariables false
set_option linter.unusedSimpArgs false
attribute [local go_sem] Oper.semAt_some

theorem wpIn_scope_wide {n : Nat} {P : Program} {c : Code} {Q : Exit → Act → World → Prop} {a : Act} {w : World} (h : c.wpIn Fence.wide n P (Exit.noGoto Q) a w) : (Code.scope c).wpIn Fence.wide n P Q a w :=
  wpIn_wide.2 (wp_scope_straight (wpIn_wide.1 h))

def needC (x : S60) : List Value := [.int .i64 x.f0.f0, .int .i64 x.f0.f1, .int .i64 x.f0.f2, .int .i64 x.f0.f3, .int .i64 x.f0.f4, .int .i64 x.f1, .int .i64 x.f2, .int .i64 x.f3.f0, .int .i64 x.f3.f1]
def ownB (x : S60) : Bool := decide (x.f0.f4 = 1)
def ownV (x : S60) : Array Value := #[.int .i64 x.f0.f2, .agg (needC x).toArray]

theorem take_filter_no {α : Type} {p : α → Bool} {l : List α} {k : Nat} {x : α} (h : l[k]? = some x) (hp : p x = false) : (l.take (k + 1)).filter p = (l.take k).filter p := by
  rw [List.take_add_one, h]; simp [hp]
theorem take_filter_yes {α : Type} {p : α → Bool} {l : List α} {k : Nat} {x : α} (h : l[k]? = some x) (hp : p x = true) : (l.take (k + 1)).filter p = (l.take k).filter p ++ [x] := by
  rw [List.take_add_one, h]; simp [hp]
theorem filter_parts {α : Type} {p : α → Bool} {l : List α} {k : Nat} {x : α} (h : l[k]? = some x) (hp : p x = true) : l.filter p = (l.take k).filter p ++ x :: (l.drop (k + 1)).filter p := by
  have hk := (List.getElem?_eq_some_iff.1 h)
  obtain ⟨hl, rfl⟩ := hk
  conv => lhs; rw [← List.take_append_drop k l, List.drop_eq_getElem_cons hl]
  rw [List.filter_append, List.filter_cons, hp]
  simp

set_option maxRecDepth 100000 in
set_option maxHeartbeats 1000000 in
theorem own1_iter (l : List S60) (b : Nat) (A : Option Addr) (c : Nat) (hc : l.length ≤ c) :
    IterC Try.prog 56 #[.pointer (some ⟨b, 0, none⟩)] ownV (l.filter ownB) (fun W => W.cell? ⟨b, 0, none⟩ = some (.slice A l.length c) ∧ Kd.C k60 W A l.length l) := by
  intro lp J Jx W hJ hJx hRd hY h0
  refine callsIn_wide.1 (callsIn_of_wp (n := 0) Try.func56 rfl trivial ?_ rfl)
  simp only [Try.ntmps56, List.size_toArray, List.length_cons, List.length_nil, Nat.reduceAdd, Nat.reduceSub, Array.replicate_succ, Array.replicate_zero, List.push_toArray, List.append_toArray, List.nil_append, List.cons_append]
  obtain ⟨hcell, hC0⟩ := hRd [] W h0
  have hbig := hC0.2.1
  have HY := Lib.hid hY
  have HR := Lib.hid hRd
  have HJ := Lib.hid hJ
  clear hY hRd hJ hJx hC0
  gi_wp2
  refine wpIn_scope_wide ?_
  refine wpIn_seq (wpIn_label ?_)
  gi_wp2
  gi_loopw [4, 7] (fun _ i wr => ∃ k : Nat, k ≤ l.length ∧ i = .int .i64 k ∧ J ((l.take k).filter ownB) wr) (fun _ i _ => l.length - (intOf i).toNat)
  case atStart => exact ⟨0, by omega, rfl, h0⟩
  case round =>
    obtain ⟨k, hk, rfl, hJk⟩ := hrel
    clear h0 hcell
    by_cases hlt : k < l.length
    · have hltz : (k : Int) < (l.length : Int) := by omega
      obtain ⟨x, hx⟩ : ∃ x, l[k]? = some x := ⟨_, List.getElem?_eq_getElem hlt⟩
      have hC := (HR.out _ _ hJk).2
      obtain ⟨ad, hA, hcells⟩ := hC.2.2 (by omega)
      obtain ⟨cs, hcl, hK, hcell⟩ := hcells k x hx
      obtain rfl := k60_open hK
      have hx0 : wr.cell? (ad.add (k * 9)) = some (.int .i64 x.f0.f0) := hcell 0 _ rfl
      have hx1 : wr.cell? ⟨(ad.add (k * 9)).block, (ad.add (k * 9)).off + 1, none⟩ = some (.int .i64 x.f0.f1) := by rw [← add_field _ _ 1 (by omega)]; exact hcell 1 _ rfl
      have hx2 : wr.cell? ⟨(ad.add (k * 9)).block, (ad.add (k * 9)).off + 2, none⟩ = some (.int .i64 x.f0.f2) := by rw [← add_field _ _ 2 (by omega)]; exact hcell 2 _ rfl
      have hx3 : wr.cell? ⟨(ad.add (k * 9)).block, (ad.add (k * 9)).off + 3, none⟩ = some (.int .i64 x.f0.f3) := by rw [← add_field _ _ 3 (by omega)]; exact hcell 3 _ rfl
      have hx4 : wr.cell? ⟨(ad.add (k * 9)).block, (ad.add (k * 9)).off + 4, none⟩ = some (.int .i64 x.f0.f4) := by rw [← add_field _ _ 4 (by omega)]; exact hcell 4 _ rfl
      have hx5 : wr.cell? ⟨(ad.add (k * 9)).block, (ad.add (k * 9)).off + 5, none⟩ = some (.int .i64 x.f1) := by rw [← add_field _ _ 5 (by omega)]; exact hcell 5 _ rfl
      have hx6 : wr.cell? ⟨(ad.add (k * 9)).block, (ad.add (k * 9)).off + 6, none⟩ = some (.int .i64 x.f2) := by rw [← add_field _ _ 6 (by omega)]; exact hcell 6 _ rfl
      have hx7 : wr.cell? ⟨(ad.add (k * 9)).block, (ad.add (k * 9)).off + 7, none⟩ = some (.int .i64 x.f3.f0) := by rw [← add_field _ _ 7 (by omega)]; exact hcell 7 _ rfl
      have hx8 : wr.cell? ⟨(ad.add (k * 9)).block, (ad.add (k * 9)).off + 8, none⟩ = some (.int .i64 x.f3.f1) := by rw [← add_field _ _ 8 (by omega)]; exact hcell 8 _ rfl
      subst hA
      have HX := Lib.hid hx
      have hJa := HJ.out _ _ _ hJk (World.grownBy_alloc wr (.cells (needC x).toArray 60) none)
      have HJA := Lib.hid hJa
      clear hcells hcell hK hcl hC hx hJa
      by_cases ho : x.f0.f4 = 1
      · have hob : ownB x = true := by simp [ownB, ho]
        obtain ⟨fn, tmps, assign, body, hy, hR⟩ := HY.out _ x _ _ (filter_parts HX.out hob) HJA.out
        have HOB := Lib.hid hob
        have hb1 : (x.f0.f4 != 1) = false := by simp [ho]
        clear hob ho
        dsimp only [ownV, needC] at hy
        gi_wp2
        refine hR.mono ?_
        rintro e W3 (⟨rfl, hJ3⟩ | ⟨rfl, hJ3⟩)
        · gi_wp2
          go_roundw
          case rel => exact ⟨k + 1, by omega, by go_num, by rw [take_filter_yes HX.out HOB.out]; exact hJ3⟩
          case measure => simp [intOf]; omega
        · gi_wp2
          rw [Exit.noGoto_ret]
          refine bodyPost_ret (results_none rfl _ _ _) rfl ?_
          exact ⟨⟨_, rfl⟩, .inr ⟨_, x, _, filter_parts HX.out HOB.out, hJ3⟩⟩
      · have hob : ownB x = false := by simp [ownB, ho]
        have HOB := Lib.hid hob
        have hb1 : (x.f0.f4 != 1) = true := by simp [ho]
        clear hob ho
        gi_wp2
        go_roundw
        case rel => exact ⟨k + 1, by omega, by go_num, by rw [take_filter_no HX.out HOB.out]; exact HJA.out⟩
        case measure => simp [intOf]; omega
    · have hkl : k = l.length := by omega
      subst hkl
      rw [List.take_length] at hJk
      have HJK := Lib.hid hJk
      clear hJk
      gi_wp2
      simp only [Exit.inBlock, Exit.then, Exit.noGoto]
      refine bodyPost_end (results_none rfl _ _ _) rfl ?_
      exact ⟨⟨_, rfl⟩, .inl HJK.out⟩

theorem own_any (l : List S60) (A : Option Addr) (c : Nat) (w : World) :
    Calls Try.prog 41 #[.slice A l.length c] w fun e w' => e = .returned (.func (.func 56) #[] #[.pointer (some ⟨w.heap.size, 0, none⟩)]) ∧ w.alloc (.cells #[.slice A l.length c] 48) = w' := by
  go_enter Try.func41, Try.ntmps41
  go_wp2
  go_ret
  exact ⟨rfl, rfl⟩
end Go.Proofs.Ytfoocmmjefdojaa.K
