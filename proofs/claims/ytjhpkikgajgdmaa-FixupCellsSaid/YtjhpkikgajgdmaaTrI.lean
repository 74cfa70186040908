/- Layer 4: equal lists. -/
import Derived.Test.YtjhpkikgajgdmaaTrB
import Derived.Test.YtjhpkikgajgdmaaK2
import Derived.Test.YtjhpkikgajgdmaaTrA
namespace Go.Proofs.Ytjhpkikgajgdmaa.K
open Go.RowKit Go.Proofs.YtjhpkikgajgdmaaW.PrintWords Go.Proofs.YtjhpkikgajgdmaaW.PrintLast Go.Proofs.YtjhpkikgajgdmaaW.PrintMore
set_option linter.unusedVariables false
set_option linter.unusedSimpArgs false

theorem wrap_up {j : Nat} (h : j < 9000000000000000000) : wrap64 ((j : Int) + 1) = ((j + 1 : Nat) : Int) := by unfold wrap64; omega
theorem ints_l0 (l : List Int) (hl : l.length < 1000000000) : ∀ (d j k : Nat), j + d = l.length → d < k → purflingref04_Ints.l0 k l l (j : Int) = some true
  | 0, j, k + 1, h, _ => by
    unfold purflingref04_Ints.l0
    rw [if_neg (by omega)]
  | d + 1, j, k + 1, h, hk => by
    unfold purflingref04_Ints.l0
    rw [if_pos (by omega), if_pos (by omega), if_pos (by omega), if_pos rfl, wrap_up (by omega)]
    exact ints_l0 l hl d (j + 1) k (by omega) (by omega)
theorem ints_f (l : List Int) (hl : l.length < 1000000000) : purflingref04_Ints.f (l.length + 1) l l = some true := by
  unfold purflingref04_Ints.f
  rw [if_pos rfl]
  exact ints_l0 l hl l.length 0 _ (by omega) (by omega)
theorem ints_same {xs : List Int} {n : Nat} (hn : xs.length = n) (hl : n < 1000000000) (A0 : Option Addr) (c0 : Nat) (A1 : Option Addr) (c1 : Nat) (w : World) (hr0 : Kd.C (Kd.int .i64) w A0 n xs) (hc0 : n ≤ c0) (hr1 : Kd.C (Kd.int .i64) w A1 n xs) (hc1 : n ≤ c1) :
    Calls Try.prog 17 #[.slice A0 n c0, .slice A1 n c1] w fun e w' => e = .returned (.bool true) ∧ Below w.heap.size w w' := by
  subst hn
  exact (purflingref04_Ints.calls (xs.length + 1) A0 c0 xs A1 c1 xs true w hr0 hc0 hr1 hc1 (ints_f xs hl)).mono fun e w' ⟨he, hd⟩ => ⟨he, hd.below⟩
/-- the blocks of a text's literals -/
theorem wp_pick3 {P : Program} {c : Code} {Q : Exit → Act → World → Prop} {a : Act} {w : World} {c1 c2 c3 : Array Value} {t1 t2 t3 : Nat}
    (h : ∀ W, BlkIs W w.heap.size t1 c1 → BlkIs W (w.heap.size + 1) t2 c2 → BlkIs W (w.heap.size + 1 + 1) t3 c3 → Below w.heap.size w W → w.heap.size + 1 + 1 + 1 = W.heap.size → Code.wp P c Q a W) :
    Code.wp P c Q a (((w.alloc (.cells c1 t1)).alloc (.cells c2 t2)).alloc (.cells c3 t3)) := by
  refine h _ ?_ ?_ ?_ ?_ (by simp)
  · exact BlkIs.alloc (BlkIs.alloc (World.alloc_heap_new w _) _) _
  · have := BlkIs.alloc (World.alloc_heap_new (w.alloc (.cells c1 t1)) (.cells c2 t2)) (.cells c3 t3)
    simpa using this
  · have h3 : BlkIs (((w.alloc (.cells c1 t1)).alloc (.cells c2 t2)).alloc (.cells c3 t3)) ((w.alloc (.cells c1 t1)).alloc (.cells c2 t2)).heap.size t3 c3 := World.alloc_heap_new ((w.alloc (.cells c1 t1)).alloc (.cells c2 t2)) (.cells c3 t3)
    rwa [World.size_alloc, World.size_alloc] at h3
  · exact (((Below.refl _ w).alloc (Nat.le_refl _) _).alloc (by simp) _).alloc (by simp; omega) _
end Go.Proofs.Ytjhpkikgajgdmaa.K
