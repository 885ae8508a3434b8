/-
  Words: plain facts, and the contracts of Valid of both packages and of Alphabet. No condition.
-/
import Derived.Test.YtcoidofchofljaaProg
import Derived.Test.YtcoidofchofljaaNat
namespace Go.Proofs.Ytcoidofchofljaa
open Go.RowKit
set_option linter.unusedSimpArgs false
set_option linter.unusedVariables false

/-- Numbers as values. -/
def i64s (l : List Int) : List Value := l.map (Value.int .i64)
theorem i64s_one (l : List Int) : ∀ u ∈ i64s l, u.oneCell' = true := one_ints .i64 l

section
variable {w : World} {ao : Option Addr} {n cap : Nat} {l : List Int}
theorem Sl.i64 (h : Sl w ao n cap (i64s l)) {k : Nat} (hk : k < n) : ∃ x, l[k]? = some x ∧ ∃ b off, ao = some ⟨b, off, none⟩ ∧ w.cell? ⟨b, off + k, none⟩ = some (.int .i64 x) := h.get hk
theorem Sl.lenI (h : Sl w ao n cap (i64s l)) : l.length = n := h.lenMap
end

/-- A word over s symbols. -/
def okW (l : List Int) (s : Int) : Bool := decide (1 ≤ s ∧ s ≤ 32 ∧ l.length ≤ 256 ∧ ∀ x ∈ l, 1 ≤ x ∧ x ≤ s)

theorem okW_false {l : List Int} {s x : Int} {k : Nat} (h : l[k]? = some x) (hx : ¬ (1 ≤ x ∧ x ≤ s)) : okW l s = false := by
  unfold okW
  rw [decide_eq_false_iff_not]
  rintro ⟨_, _, _, h4⟩
  exact hx (h4 x (List.mem_of_getElem? h))

theorem okW_all {l : List Int} {s : Int} (h : ∀ x ∈ l, 1 ≤ x ∧ x ≤ s) : okW l s = (decide (1 ≤ s) && decide (s ≤ 32) && decide (l.length ≤ 256)) := by
  unfold okW
  rw [Bool.eq_iff_iff]
  simp only [decide_eq_true_eq, Bool.and_eq_true]
  exact ⟨fun ⟨a, b, c, _⟩ => ⟨⟨a, b⟩, c⟩, fun ⟨⟨a, b⟩, c⟩ => ⟨a, b, c, h⟩⟩

theorem take_all {l : List Int} {k : Nat} {x s : Int} (h : ∀ y ∈ l.take k, 1 ≤ y ∧ y ≤ s) (hx : l[k]? = some x) (h1 : 1 ≤ x) (h2 : x ≤ s) : ∀ y ∈ l.take (k + 1), 1 ≤ y ∧ y ≤ s := by
  intro y hy
  rw [take_snoc hx, List.mem_append] at hy
  rcases hy with hy | hy
  · exact h y hy
  · simp at hy; subst hy; exact ⟨h1, h2⟩

end Go.Proofs.Ytcoidofchofljaa
