/-
  The contracts of the words' statements' helpers: light, awake. No condition.
-/
import Derived.Test.YtcgfglgcjpjbaaaDoorWrdE
namespace Go.Proofs.YtcgfglgcjpjbaaaDoor
open Go.RowKit
set_option linter.unusedSimpArgs false
set_option linter.unusedVariables false

def lightW (n : Nat) : Bool := decide (n ≤ 20 ∨ (255 ≤ n ∧ n ≤ 258))

theorem C3.drewN {B : Nat} {x y z : Value} {w : World} (h : C3 B x y z w) (n : Nat) : C3 B x y z (w.drewN n) := h.next (below_drewNs n)

theorem rank_ex : rankQ [2, 1] 2 = 5 ∧ rankErr [2, 1] 2 = 0 := by
  have : okW [2, 1] 2 = true := by decide
  constructor
  · unfold rankQ; rw [this]; rfl
  · unfold rankErr; rw [this]; rfl
theorem next_ex : nextRes [1, 2] 2 = [2, 1] ∧ nextErr [1, 2] 2 = 0 := by
  have : okW [1, 2] 2 = true := by decide
  constructor
  · unfold nextRes; rw [this]; rfl
  · unfold nextErr; rw [this]; rfl
theorem make_ex : makeRat 5 1 = 5 := by unfold makeRat; rw [if_neg (by decide)]; grind

set_option maxHeartbeats 2000000 in
theorem wawake_any (w : World) : Calls Tryd.prog 6 #[] w fun e w' => e = .returned (.bool true) ∧ Below w.heap.size w w' := by
  go_enter Tryd.func6, Tryd.ntmps6
  go_wp2_with fail
  have hs1 : Sl (w.alloc (.cells #[.int .i64 2, .int .i64 1] 3)) (some ⟨w.heap.size, 0, none⟩) 2 2 (i64s [2, 1]) := Sl.lit w [.int .i64 2, .int .i64 1] 3 (by simp [maxLen])
  refine (wRank_any [2, 1] 2 _ _ _ _ hs1).mono ?_
  rw [rank_ex.1, rank_ex.2]
  rintro e w1 ⟨v1, rfl, C1, hb1⟩
  have hbel1 : Below w.heap.size w w1 := below_chain (below_alloc _) hb1
  obtain ⟨rb, ro, rn, rc, so, sn, sc, rfl⟩ := C1.shape
  clear hs1
  go_wp2_with fail
  have hH : Bk w w1.heap.size (.bool rb) (.slice ro rn rc) (.slice so sn sc) (w1.alloc (.cells #[.bool rb, .slice ro rn rc, .slice so sn sc] 37)) := Bk.start hbel1 rfl _ _ _ _
  have C2 := C1.next (below_alloc (.cells #[.bool rb, .slice ro rn rc, .slice so sn sc] 37))
  have hW : (w1.alloc (.cells #[.bool rb, .slice ro rn rc, .slice so sn sc] 37)).heap.size = w1.heap.size + 1 := by simp
  generalize w1.alloc (.cells #[.bool rb, .slice ro rn rc, .slice so sn sc] 37) = W at *
  have hs2 : Sl (W.alloc (.cells #[.int .i64 1, .int .i64 2] 3)) (some ⟨W.heap.size, 0, none⟩) 2 2 (i64s [1, 2]) := Sl.lit W [.int .i64 1, .int .i64 2] 3 (by simp [maxLen])
  rw [hW] at hs2
  clear hW
  refine (wNext_any [1, 2] 2 _ _ _ _ hs2).mono ?_
  rw [next_ex.1, next_ex.2]
  rintro e w2 ⟨oo, on, oc, rfl, hs3, _, hb2⟩
  have hH2 := (hH.new _).next hb2
  have C3' := (C2.next (below_alloc _)).next hb2
  clear hs2 hH C2 C1
  have hbel2 := hH2.bel
  have hS0 : C3 w1.heap.size (.bool rb) (.slice ro rn rc) (.slice so sn sc) w2.drew := hH2.drew.c3
  have hd := (Below.refl w2.heap.size w2).drew
  have hK : ∀ w' w'', C3 w1.heap.size (.bool rb) (.slice ro rn rc) (.slice so sn sc) w' → Below w'.heap.size w' w'' → C3 w1.heap.size (.bool rb) (.slice ro rn rc) (.slice so sn sc) w'' := fun w' w'' h hb => h.next hb
  go_wp2_with fail
  go_region_held3 (fun w' => C3 w1.heap.size (.bool rb) (.slice ro rn rc) (.slice so sn sc) w')
    (repeat (first | with_reducible assumption | with_reducible refine hK _ _ ?_ hb3 | with_reducible refine hK _ _ ?_ hb4 | with_reducible refine C3.new ?_ _ | with_reducible refine C3.drewN ?_ _))
    (first
      | (go_at_call 17; refine (rOf_any 5 1 (by decide) (by decide) (by decide) (by decide) _).mono ?_; rw [make_ex]; rintro e w3 ⟨v3, rfl, C5, hb3⟩)
      | (go_at_call 16; refine (rSameC 5 5 _ _ _ ((C3'.next hd).next hb3) C5).mono ?_; rintro e w4 ⟨rfl, hb4⟩; rw [show decide ((5 : Rat) = 5) = true from rfl])
      | (go_at_call 11; refine (rwSame_any [2, 1] [2, 1] _ _ _ _ _ _ _ ((((hs3.next hd).next hb3).next hb4).next (below_alloc _)) (Sl.lit w4 [.int .i64 2, .int .i64 1] 3 (by simp [maxLen]))).mono ?_; rintro e w5 ⟨rfl, q5, rfl⟩; rw [show decide (([2, 1] : List Int) = [2, 1]) = true from rfl]))
  go_wp2_with fail
  go_ret
  exact ⟨rfl, (below_chain (below_new (below_chain (below_chain hbel2.drew hb3) hb4) _) (below_drewNs _))⟩

end Go.Proofs.YtcgfglgcjpjbaaaDoor
