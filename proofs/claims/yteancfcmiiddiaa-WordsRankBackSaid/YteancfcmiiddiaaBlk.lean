/-
  A variable of three cells that is known whole: plain facts of memory. No condition.
-/
import Derived.Test.YteancfcmiiddiaaRatH
import Derived.Deep.RegionLaw
namespace Go.Proofs.Yteancfcmiiddiaa
open Go.RowKit
set_option linter.unusedSimpArgs false
set_option linter.unusedVariables false

/-- Block G, made since w, holds just three cells. -/
structure Bk (w : World) (G : Nat) (x y z : Value) (w' : World) : Prop where
  heap : ∃ T, w'.heap[G]? = some (.cells #[x, y, z] T (0, 0))
  ge : w.heap.size ≤ G
  bel : Below w.heap.size w w'

section
variable {w w' w'' : World} {G g : Nat} {x y z : Value}
theorem Bk.lt (h : Bk w G x y z w') : G < w'.heap.size := by
  obtain ⟨T, hT⟩ := h.heap
  exact (Array.getElem?_eq_some_iff.1 hT).1
theorem Bk.cell (h : Bk w G x y z w') (i : Nat) : w'.cell? ⟨G, i, none⟩ = #[x, y, z][i]? := by
  obtain ⟨T, hT⟩ := h.heap
  exact cell_of_row w' G i _ T (0, 0) hT
theorem Bk.c3 (h : Bk w G x y z w') : C3 G x y z w' := ⟨by rw [h.cell]; rfl, by rw [h.cell]; rfl, by rw [h.cell]; rfl⟩
theorem Bk.free (h : Bk w G x y z w') (i : Nat) : w'.frozen? ⟨G, i, none⟩ = false := by
  obtain ⟨T, hT⟩ := h.heap
  exact frozen_of_row w' G i _ T hT
theorem Bk.next (h : Bk w G x y z w') (hb : Below w'.heap.size w' w'') : Bk w G x y z w'' :=
  ⟨by obtain ⟨T, hT⟩ := h.heap; exact ⟨T, by rw [hb.block G h.lt]; exact hT⟩, h.ge, below_chain h.bel hb⟩
theorem Bk.drew (h : Bk w G x y z w') : Bk w G x y z w'.drew := ⟨h.heap, h.ge, h.bel.drew⟩
theorem Bk.drewN (h : Bk w G x y z w') (n : Nat) : Bk w G x y z (w'.drewN n) := h.next ⟨rfl, rfl, rfl, Nat.le_refl _, fun _ _ => rfl⟩
theorem Bk.new (h : Bk w G x y z w') (o : Obj) : Bk w G x y z (w'.alloc o) := h.next (below_alloc o)
theorem Bk.start (hb : Below w.heap.size w w') (hG : G = w'.heap.size) (x y z : Value) (T : TypeId) : Bk w G x y z (w'.alloc (.cells #[x, y, z] T)) := by
  subst hG
  exact ⟨⟨T, heap_alloc_new w' _⟩, hb.size, hb.alloc hb.size _⟩
/-- It is stored to. -/
theorem Bk.put (h : Bk w G x y z w') (x' y' z' : Value) : Bk w G x' y' z' (((w'.setCell ⟨G, 0, none⟩ x').setCell ⟨G, 1, none⟩ y').setCell ⟨G, 2, none⟩ z') := by
  obtain ⟨T, hT⟩ := h.heap
  refine ⟨⟨T, ?_⟩, h.ge, below_set3 h.bel h.ge _ _ _⟩
  have h1 := heap_setCell_same w' G 0 _ T x' hT
  have h2 := heap_setCell_same _ G 1 _ T y' h1
  have h3 := heap_setCell_same _ G 2 _ T z' h2
  exact h3
/-- Another variable is stored to. -/
theorem Bk.other (h : Bk w G x y z w') (hg : g ≠ G) (hw : w.heap.size ≤ g) (x' y' z' : Value) : Bk w G x y z (((w'.setCell ⟨g, 0, none⟩ x').setCell ⟨g, 1, none⟩ y').setCell ⟨g, 2, none⟩ z') := by
  obtain ⟨T, hT⟩ := h.heap
  refine ⟨⟨T, ?_⟩, h.ge, below_set3 h.bel hw _ _ _⟩
  rw [Below.heap_setCell _ _ _ _ (show G ≠ g from fun e => hg e.symm), Below.heap_setCell _ _ _ _ (show G ≠ g from fun e => hg e.symm), Below.heap_setCell _ _ _ _ (show G ≠ g from fun e => hg e.symm)]
  exact hT
theorem Bk.res {b0 : Bool} {a1 a2 : Option Addr} {n1 n2 k1 k2 : Nat} (h : Bk w G (.bool b0) (.slice a1 n1 k1) (.slice a2 n2 k2) w') : Res w G b0 a1 n1 k1 a2 n2 k2 w' :=
  ⟨h.c3.1, h.c3.2.1, h.c3.2.2, h.free 0, h.free 1, h.free 2, h.lt, h.ge, h.bel, fun i v hv => by
    rw [h.cell] at hv
    match i, hv with
    | 0, hv => exact .inl (by simpa using hv.symm)
    | 1, hv => exact .inr (.inl (by simpa using hv.symm))
    | 2, hv => exact .inr (.inr (by simpa using hv.symm))
    | i + 3, hv => simp at hv⟩
end

/-- A variable with a rational. -/
def BkQ (w : World) (G : Nat) (q : Rat) (w' : World) : Prop :=
  ∃ (s : Bool) (ao : Option Addr) (n cap : Nat) (bo : Option Addr) (m cap' : Nat), Bk w G (.bool s) (.slice ao n cap) (.slice bo m cap') w' ∧ RatC w' (.agg #[.bool s, .slice ao n cap, .slice bo m cap']) q

theorem RatC.putOther {w w' : World} {G : Nat} {q : Rat} {v : Value} {b0 : Bool} {a1 a2 : Option Addr} {n1 n2 k1 k2 : Nat} (hr : Res w G b0 a1 n1 k1 a2 n2 k2 w') (C : RatC w' v q) (x y z : Value) :
    RatC (((w'.setCell ⟨G, 0, none⟩ x).setCell ⟨G, 1, none⟩ y).setCell ⟨G, 2, none⟩ z) v q := by
  obtain ⟨ao', bo', n', cap1, m', cap2, rfl, s1, s2, hz, hz'⟩ := C
  exact ⟨_, _, _, _, _, _, rfl, s1.set3 (hr.off s1) _ _ _, s2.set3 (hr.off s2) _ _ _, hz, hz'⟩
theorem Sl.putOther {w w' : World} {G : Nat} {b0 : Bool} {a1 a2 : Option Addr} {n1 n2 k1 k2 : Nat} (hr : Res w G b0 a1 n1 k1 a2 n2 k2 w') {ao : Option Addr} {n cap : Nat} {l : List Nat} (s : Sl w' ao n cap (u32s l)) (x y z : Value) :
    Sl (((w'.setCell ⟨G, 0, none⟩ x).setCell ⟨G, 1, none⟩ y).setCell ⟨G, 2, none⟩ z) ao n cap (u32s l) := s.set3 (hr.off s) _ _ _

theorem Bk.putQ {w w' : World} {G : Nat} {b0 : Bool} {a1 a2 : Option Addr} {n1 n2 k1 k2 : Nat} (h : Bk w G (.bool b0) (.slice a1 n1 k1) (.slice a2 n2 k2) w') {q : Rat} {s : Bool} {ao bo : Option Addr} {n cap m cap' : Nat} (C : RatC w' (.agg #[.bool s, .slice ao n cap, .slice bo m cap']) q) :
    BkQ w G q (((w'.setCell ⟨G, 0, none⟩ (.bool s)).setCell ⟨G, 1, none⟩ (.slice ao n cap)).setCell ⟨G, 2, none⟩ (.slice bo m cap')) :=
  ⟨_, _, _, _, _, _, _, h.put _ _ _, C.putOther h.res _ _ _⟩

theorem rat_zero_agg (w : World) : RatC w (.agg #[.bool false, .slice none 0 0, .slice none 0 0]) 0 := ratC_zero w

end Go.Proofs.Yteancfcmiiddiaa
