/-
  The walks of the statements PolynomialStars, PolynomialIsARing, PolynomialStarSolves, PolynomialCalculates. No condition but the table of powers of ten.
-/
import Derived.Test.YtgohfieleckmgaaGreatDoorPlkS
namespace Go.Proofs.YtgohfieleckmgaaGreatDoor
open Go.RowKit
set_option linter.unusedSimpArgs false
set_option linter.unusedVariables false

/-- A polynomial in memory, its length told apart. -/
def PN (w : World) (ao : Option Addr) (n cap : Nat) (P : Pl) : Prop := (lst P).length = n ∧ PolC w ao cap P
theorem PN.next {w w' : World} {ao : Option Addr} {n cap : Nat} {P : Pl} (h : PN w ao n cap P) (hb : Below w.heap.size w w') : PN w' ao n cap P := ⟨h.1, h.2.next hb⟩
theorem PN.V {w : World} {ao : Option Addr} {n cap k : Nat} {P : Pl} (h : PN w ao n cap P) (hf : FitP k P) (hk : k ≤ 17179869184) : PolV w (.slice ao n cap) P := by
  have := h.2.toV hf hk
  rwa [h.1] at this
theorem PolOut.pn {w w' : World} {P : Pl} {e : Ending} (h : PolOut w P e w') : ∃ ao n cap, e = .returned (.slice ao n cap) ∧ PN w' ao n cap P ∧ Below w.heap.size w w' := by
  obtain ⟨ao, cap, h1, h2, h3⟩ := h
  exact ⟨ao, _, cap, h1, ⟨rfl, h2⟩, h3⟩
theorem StarOut.pn {w w' : World} {P : Pl} {c : Int} {e : Ending} (h : StarOut w P c e w') : ∃ ao n cap, e = .returned (.tuple #[.slice ao n cap, .int .i64 c]) ∧ PN w' ao n cap P ∧ Below w.heap.size w w' := by
  obtain ⟨ao, cap, h1, h2, h3⟩ := h
  exact ⟨ao, _, cap, h1, ⟨rfl, h2⟩, h3⟩
theorem fit_polOf {l : List Mr} {k : Nat} (h : ∀ m ∈ l, Fit k m.2) (hk : 1 ≤ k) : FitP k (polOf l) := by
  unfold polOf
  split
  · rename_i hv
    intro e he
    obtain ⟨h1, h2⟩ := vlB_vl hv
    by_cases hm : ∃ m ∈ l.map fromM, m.1 = e
    · obtain ⟨m, hm, rfl⟩ := hm
      rw [cof_in h1.1 m hm]
      obtain ⟨x, hx, rfl⟩ := List.mem_map.1 hm
      exact h x hx
    · rw [cof_notin fun m hm2 he2 => hm ⟨m, hm2, he2⟩]
      exact fit_zero hk
  · exact fitP_zero hk
end Go.Proofs.YtgohfieleckmgaaGreatDoor

