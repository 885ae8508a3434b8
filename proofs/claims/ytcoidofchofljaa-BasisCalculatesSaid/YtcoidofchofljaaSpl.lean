/-
  Rows that reduce a vector one after the other, as functions; their sizes. No condition, no program.
-/
import Derived.Test.YtcoidofchofljaaMatB
namespace Go.Proofs.Ytcoidofchofljaa
set_option linter.unusedSimpArgs false
set_option linter.unusedVariables false

/-- Reduced by the first k rows. -/
def redN (RV RC : Nat → V) (pl : Nat → Nat) (F : V) : Nat → V × V
  | 0 => (F, zeroV)
  | k + 1 => redStep (redN RV RC pl F k) ⟨RV k, RC k, pl k⟩

/-- The bound of the numbers' sizes after i rows. -/
def lv (K : Nat) : Nat → Nat
  | 0 => K
  | i + 1 => 4 * lv K i + 1
theorem lv_le {K i j : Nat} (h : i ≤ j) : lv K i ≤ lv K j := by
  induction j with
  | zero => rw [Nat.le_zero.1 h]; exact Nat.le_refl _
  | succ j ih =>
    rcases Nat.lt_or_ge i (j + 1) with h' | h'
    · have := ih (by omega); simp only [lv]; omega
    · obtain rfl : i = j + 1 := by omega
      exact Nat.le_refl _

theorem redN_fit {RV RC : Nat → V} {pl : Nat → Nat} {F : V} {n m K : Nat} (hK : 1 ≤ K) (hF : ∀ i, i < n → Fit K (F i)) (hV : ∀ k, k < m → ∀ i, i < n → Fit (lv K k) (RV k i)) (hC : ∀ k, k < m → ∀ i, Fit (lv K k) (RC k i)) (hp : ∀ k, k < m → pl k < n) :
    ∀ k, k ≤ m → (∀ i, i < n → Fit (lv K k) ((redN RV RC pl F k).1 i)) ∧ ∀ i, Fit (lv K k) ((redN RV RC pl F k).2 i) := by
  intro k
  induction k with
  | zero => intro _; exact ⟨hF, fun i => fit_zero hK⟩
  | succ k ih =>
    intro hk
    obtain ⟨h1, h2⟩ := ih (by omega)
    have hf : Fit (lv K k + lv K k) (redF (redN RV RC pl F k).1 ⟨RV k, RC k, pl k⟩) := fit_div (h1 _ (hp k (by omega))) (hV k (by omega) _ (hp k (by omega)))
    refine ⟨fun i hi => ?_, fun i => ?_⟩
    · exact (fit_sub (h1 i hi) (fit_mul hf (hV k (by omega) i hi))).mono (by simp only [lv]; omega)
    · exact (fit_add (h2 i) (fit_mul hf (hC k (by omega) i))).mono (by simp only [lv]; omega)

end Go.Proofs.Ytcoidofchofljaa
