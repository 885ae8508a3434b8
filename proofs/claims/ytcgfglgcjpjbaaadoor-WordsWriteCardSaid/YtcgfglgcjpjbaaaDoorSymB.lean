/-
  Contracts: weightedref04.Inner, named, symbols.Named. No condition but sizes.
-/
import Derived.Test.YtcgfglgcjpjbaaaDoorSymA
namespace Go.Proofs.YtcgfglgcjpjbaaaDoor
open Go.RowKit

theorem Inner_any (c : UInt8) (w : World) :
    Calls Tryd.prog 44 #[.int .u8 c.toNat] w fun e w' => e = .returned (.bool (inner c)) ∧ w = w' := by
  have hc : c.toNat < 256 := c.toNat_lt
  go_enter Tryd.func44, Tryd.ntmps44
  go_wp2_with fail
  all_goals
    go_ret
    refine ⟨retB ?_, rfl⟩
    rw [Bool.eq_iff_iff]
    simp [inner]
    try omega

/-- A name. -/
def named (s : ByteArray) : Bool := !s.toList.isEmpty && decide (s.size ≤ 24) && !(s.toList == [48]) && !(s.toList == [49]) && s.data.toList.all inner

set_option maxRecDepth 100000 in
theorem Named_any (s : ByteArray) (w : World) :
    Calls Tryd.prog 36 #[.string s] w fun e w' => e = .returned (.bool (named s)) ∧ Below w.heap.size w w' := by
  cases h0 : s.toList.isEmpty with
  | true =>
    go_enter Tryd.func36, Tryd.ntmps36
    go_wp2_with fail
    go_ret
    exact ⟨retB (by simp [named, h0]), Below.refl _ _⟩
  | false =>
    by_cases h1 : s.size ≤ 24
    · cases h2 : s.toList == [48] with
      | true =>
        go_enter Tryd.func36, Tryd.ntmps36
        go_wp2_with fail
        go_ret
        exact ⟨retB (by simp [named, h2]), Below.refl _ _⟩
      | false =>
        cases h3 : s.toList == [49] with
        | true =>
          go_enter Tryd.func36, Tryd.ntmps36
          go_wp2_with fail
          go_ret
          exact ⟨retB (by simp [named, h3]), Below.refl _ _⟩
        | false =>
          obtain ⟨cap, W1, hrun, hb, hsl⟩ := bytes_of (P := Tryd.prog) w 9 57 5 s Tryd.underlying9 Tryd.underlying57 Tryd.underlying5 (by unfold maxLen; omega)
          go_enter Tryd.func36, Tryd.ntmps36
          go_wp2_with fail
          refine (containsFunc_any _ _ _ _ _ hsl).mono ?_; rintro e w' ⟨rfl, rfl⟩
          go_wp2_with fail
          go_ret
          exact ⟨retB (by simp [named, h0, h1, h2, h3]), hb⟩
    · go_enter Tryd.func36, Tryd.ntmps36
      go_wp2_with fail
      go_ret
      exact ⟨retB (by simp [named, h1]), Below.refl _ _⟩

end Go.Proofs.YtcgfglgcjpjbaaaDoor
