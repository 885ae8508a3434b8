/-
  The contract of made.Mod. No condition but sizes.
-/
import Derived.Test.YtgohfieleckmgaaGreatDoorProg
import Derived.Test.YtgohfieleckmgaaGreatDoorNat
import Derived.Test.YtgohfieleckmgaaGreatDoorBase
namespace Go.Proofs.YtgohfieleckmgaaGreatDoor
open Go.RowKit
set_option linter.unusedSimpArgs false
set_option linter.unusedVariables false

theorem tmod_facts (k n : Int) (h1 : 1 ≤ n) : (-n < Int.tmod k n ∧ Int.tmod k n < n) ∧ (k % n = if Int.tmod k n < 0 then Int.tmod k n + n else Int.tmod k n) := by
  have a := Int.emod_nonneg k (show n ≠ 0 by omega)
  have b := Int.emod_lt_of_pos k (show 0 < n by omega)
  have c := Int.tmod_eq_emod (a := k) (b := n)
  have hn : (n.natAbs : Int) = n := by omega
  by_cases h : 0 ≤ k ∨ n ∣ k
  · rw [if_pos h] at c
    refine ⟨by omega, ?_⟩
    rw [if_neg (by omega)]; omega
  · rw [if_neg h, hn] at c
    have : k % n ≠ 0 := fun e => h (.inr (Int.dvd_of_emod_eq_zero e))
    refine ⟨by omega, ?_⟩
    rw [if_pos (by omega)]; omega

theorem mod_any (k n : Int) (h1 : 1 ≤ n) (h2 : n ≤ 32) (w : World) :
    Calls Tryz.prog 71 #[.int .i64 k, .int .i64 n] w fun e w' => e = .returned (.int .i64 (k % n)) ∧ w = w' := by
  obtain ⟨⟨b1, b2⟩, hk⟩ := tmod_facts k n h1
  obtain ⟨r, hr⟩ : ∃ r, Int.tmod k n = r := ⟨_, rfl⟩
  rw [hr] at b1 b2 hk
  have hwr : IntKind.i64.wrap (Int.tmod k n) = r := by rw [hr, IntKind.wrap_i64]; omega
  rw [hk]
  clear hk
  go_enter Tryz.func71, Tryz.ntmps71
  by_cases hneg : r < 0
  · rw [if_pos hneg]
    go_wp2_with fail
    go_ret
    exact ⟨rfl, rfl⟩
  · rw [if_neg hneg]
    go_wp2_with fail
    go_ret
    exact ⟨rfl, rfl⟩

end Go.Proofs.YtgohfieleckmgaaGreatDoor
