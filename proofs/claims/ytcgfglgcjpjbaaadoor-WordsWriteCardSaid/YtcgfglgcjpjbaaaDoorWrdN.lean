/-
  The contract of words.number. No condition.
-/
import Derived.Test.YtcgfglgcjpjbaaaDoorRefY
namespace Go.Proofs.YtcgfglgcjpjbaaaDoor
open Go.RowKit
set_option linter.unusedSimpArgs false
set_option linter.unusedVariables false

set_option maxHeartbeats 1000000 in
theorem number_any (a : Int) (h1 : -9223372036854775808 ≤ a) (h2 : a ≤ 9223372036854775807) (w : World) :
    Calls Tryd.prog 32 #[.int .i64 a] w (RatOut w (a : Rat)) := by
  have hm : makeRat a 1 = (a : Rat) := by
    unfold makeRat; rw [if_neg (by decide)]; grind
  have Hm := hid hm
  clear hm
  have hr := Res.start (Below.refl w.heap.size w) false none 0 0 none 0 0 37
  go_enter Tryd.func32, Tryd.ntmps32
  go_wp2_with fail
  refine (Make_any a 1 h1 h2 (by decide) (by decide) _).mono ?_; rintro e w1 ⟨v1, rfl, C1, hb1⟩
  rw [Hm.out] at C1
  obtain ⟨rb, ro, rn, rc, so, sn, sc, rfl⟩ := C1.shape
  have hr1 := (hr.next hb1).new (.cells #[.bool rb, .slice ro rn rc, .slice so sn sc] 37)
  obtain ⟨d0, d1, d2, g0, g1, g2, _, _, _, _⟩ := hr1
  have hr1 := (hr.next hb1).new (.cells #[.bool rb, .slice ro rn rc, .slice so sn sc] 37)
  go_wp2_with fail
  refine bodyPost_ret (v := .agg #[.bool rb, .slice ro rn rc, .slice so sn sc]) (by simp [results, Tryd.results32, go_sem, d0, d1, d2]) rfl ?_
  exact hr1.rc (C1.next (below_alloc _))

end Go.Proofs.YtcgfglgcjpjbaaaDoor
