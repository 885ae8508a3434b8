/-
  The contracts of Up, Abs and the reference's Div. No condition but sizes.
-/
import Derived.Test.YtcoidofchofljaaRefY
namespace Go.Proofs.Ytcoidofchofljaa
open Go.RowKit
set_option linter.unusedSimpArgs false
set_option linter.unusedVariables false

theorem rLight_any (s : Bool) (ao bo : Option Addr) (n cap m cap' : Nat) (k : Int) (hn : n ≤ 9223372036854775807) (hm : m ≤ 9223372036854775807) (w : World) :
    Calls Try.prog 40 #[.agg #[.bool s, .slice ao n cap, .slice bo m cap'], .int .i64 k] w fun e w' => e = .returned (.bool (decide ((n : Int) ≤ k) && decide ((m : Int) ≤ k))) ∧ Below w.heap.size w w' := by
  have hB := Bk.start (Below.refl w.heap.size w) rfl (.bool s) (.slice ao n cap) (.slice bo m cap') 39
  have hS0 := hB.c3
  have hbel := hB.bel
  cases h1 : decide ((n : Int) ≤ k) with
  | false =>
    have h2 : (false && decide ((m : Int) ≤ k)) = false := rfl
    rw [h2]
    go_enter Try.func40, Try.ntmps40
    go_wp2_with fail
    go_ret
    exact ⟨rfl, hbel⟩
  | true =>
    rw [Bool.true_and]
    go_enter Try.func40, Try.ntmps40
    go_wp2_with fail
    go_ret
    exact ⟨rfl, hbel⟩

theorem ratOf_fit {neg : Bool} {N D : List Nat} {k : Nat} (hN : Lim N) (hD : Lim D) (h1 : N.length ≤ k) (h2 : D.length ≤ k) (hk : 1 ≤ k) : Fit k (ratOf neg N D) := by
  unfold ratOf
  split
  · refine fit_mk ?_ ?_ hk
    · rw [sgn_abs]
      exact lim_le (Nat.lt_of_lt_of_le (val_lt hN) (Nat.pow_le_pow_right (by decide) h1))
    · split
      · rw [lim_one]; exact hk
      · exact lim_le (Nat.lt_of_lt_of_le (val_lt hD) (Nat.pow_le_pow_right (by decide) h2))
  · exact fit_zero hk

end Go.Proofs.Ytcoidofchofljaa
