/-
  The contracts of take of the reference and of copied: vectors in new memory. No condition but sizes.
-/
import Derived.Test.YtcoidofchofljaaVow
namespace Go.Proofs.Ytcoidofchofljaa
open Go.RowKit
set_option linter.unusedSimpArgs false
set_option linter.unusedVariables false

set_option maxHeartbeats 2000000 in
theorem take_any (ao : Option Addr) (n cap : Nat) (F : V) (w : World) (h : Vec RatV w ao n cap F) (hn : n ≤ 100000) :
    Calls Try.prog 46 #[.slice ao n cap] w (VecOut w n F) := by
  go_enter Try.func46, Try.ntmps46
  go_wp2_with fail
  go_loopw [3, 4] (fun ov iv wr => ∃ k : Nat, k ≤ n ∧ iv = .int .i64 k ∧ VOwn wr w.heap.size ov k F ∧ Below w.heap.size w wr) (fun _ i _ => n - (intOf i).toNat)
  case atStart => exact ⟨0, by omega, rfl, VOwn.nil _ _ _, Below.refl _ _⟩
  case round =>
    obtain ⟨k, hk, rfl, hown, hbel⟩ := hrel
    by_cases hlt : k < n
    · obtain ⟨b, o, rfl, s, xo, xn, xc, yo, yn, yc, t1, t2, t3, hr⟩ := (h.nextV hbel).get hlt
      go_wp2_with fail
      refine (rTake_any (F k) _ _ hr).mono ?_; rintro e w2 ⟨v2, rfl, C2, hb2⟩
      have hbel2 := below_chain hbel hb2
      have hown2 := hown.next hb2
      obtain ⟨rb, ro, rn, rc, so, sn, sc, rfl⟩ := C2.shape
      have C3' := C2.next (below_alloc (.cells #[.bool rb, .slice ro rn rc, .slice so sn sc] 39))
      have hown3 := hown2.next (below_alloc (.cells #[.bool rb, .slice ro rn rc, .slice so sn sc] 39))
      have hc3 : C3 w2.heap.size (.bool rb) (.slice ro rn rc) (.slice so sn sc) (w2.alloc (.cells #[.bool rb, .slice ro rn rc, .slice so sn sc] 39)) := ⟨by simp [go_sem], by simp [go_sem], by simp [go_sem]⟩
      clear hown hown2 C2 t1 t2 t3 hr
      go_wp2_with (at_builtin; go_loud (refine wp_appV rfl (.tmp 11) (.tmp 17) rfl w.heap.size _ k F rfl hown3 w2.heap.size 1 rfl rb ro rn rc so sn sc hc3 (F k) C3' (by omega) (by have := hbel2.size; simp only [World.size_alloc]; omega) ?_))
      intro v' w4 hown4 hg4 hb4 _
      have hbel4 : Below w.heap.size w w4 := (hbel2.alloc hbel2.size _).trans hb4
      have hown5 : VOwn w4 w.heap.size v' (k + 1) F := hown4.congr (fun i hi => by
        by_cases hik : i = k
        · subst hik; rw [updV_at]
        · rw [updV_ne _ _ hik])
      clear hown4
      go_wp2_with fail
      go_roundw
      case rel => exact ⟨k + 1, by omega, by go_num, hown5, hbel4⟩
      case measure => simp [intOf]; omega
    · obtain rfl : k = n := by omega
      go_wp2_with fail
      go_ret
      exact ⟨_, rfl, hown, hbel⟩

/-- The element k of a vector of the call's own. -/
theorem VOwn.room {w : World} {base n g cap : Nat} {F : V} (h : VOwn w base (.slice (some ⟨g, 0, none⟩) n cap) n F) {k : Nat} (hk : k < n) :
    ∃ s xo xn xc yo yn yc, w.cell? ⟨g, k * 3, none⟩ = some (.bool s) ∧ w.cell? ⟨g, k * 3 + 1, none⟩ = some (.slice xo xn xc) ∧ w.cell? ⟨g, k * 3 + 2, none⟩ = some (.slice yo yn yc) ∧
      w.frozen? ⟨g, k * 3, none⟩ = false ∧ w.frozen? ⟨g, k * 3 + 1, none⟩ = false ∧ w.frozen? ⟨g, k * 3 + 2, none⟩ = false ∧ RatC w (.agg #[.bool s, .slice xo xn xc, .slice yo yn yc]) (F k) := by
  obtain ⟨xs, ⟨h1, _⟩, h2⟩ := h
  obtain ⟨s, xo, xn, xc, yo, yn, yc, a, b, c, r⟩ := h2 k hk
  exact ⟨s, xo, xn, xc, yo, yn, yc, (h1.cellAt _ (by omega)).trans a, (h1.cellAt _ (by omega)).trans b, (h1.cellAt _ (by omega)).trans c, h1.frozenAt _, h1.frozenAt _, h1.frozenAt _, r⟩

set_option maxHeartbeats 2000000 in
theorem copied_any (ao : Option Addr) (n cap : Nat) (F : V) (w : World) (h : Vec RatV w ao n cap F) (hn : n ≤ 100000) (K : Nat) (hF : ∀ i, i < n → Fit K (F i)) (hK : K ≤ 1000000) :
    Calls Try.prog 39 #[.slice ao n cap] w (VecOut w n F) := by
  go_enter Try.func39, Try.ntmps39
  go_wp2_with (at_make; go_loud (refine wp_makeV rfl (.tmp 7) (.tmp 7) rfl _ _ _ _ n rfl rfl rfl rfl (by omega) ?_))
  intro w1 hown1 hb1
  go_wp2_with fail
  go_loopw [11] (fun iv wr => ∃ k : Nat, k ≤ n ∧ iv = .int .i64 k ∧ VOwn wr w.heap.size (.slice (some ⟨w.heap.size, 0, none⟩) n n) n (fun i => if i < k then F i else 0) ∧ Below w.heap.size w wr) (fun i _ => n - (intOf i).toNat)
  case atStart => exact ⟨0, by omega, rfl, hown1.congr (fun i _ => by rw [if_neg (by omega)]; rfl), hb1⟩
  case round =>
    obtain ⟨k, hk, rfl, hown, hbel⟩ := hrel
    by_cases hlt : k < n
    · obtain ⟨b, o, rfl, s, xo, xn, xc, yo, yn, yc, t1, t2, t3, hr⟩ := (h.nextV hbel).get hlt
      have hb1 : Below wr.heap.size wr (wr.alloc (.cells #[.bool s, .slice xo xn xc, .slice yo yn yc] 39)) := below_alloc _
      have hr1 := hr.next hb1
      have hbel1 := below_chain hbel hb1
      have hown1 := hown.next hb1
      have hz := (ratC_zero (wr.alloc (.cells #[.bool s, .slice xo xn xc, .slice yo yn yc] 39))).toV (fit_zero (Nat.le_refl 1)) (by decide)
      clear hr hown
      go_wp2_with fail
      refine (Add_any (F k) 0 _ _ _ hr1 hz (K + 1) ((hF k hlt).mono (by omega)) (fit_zero (by omega)) (by omega)).mono ?_; rintro e w2 ⟨v2, rfl, C2, hb2⟩
      rw [show F k + 0 = F k by grind] at C2
      have hbel2 := below_chain hbel1 hb2
      have hown2 := hown1.next hb2
      obtain ⟨rb, ro, rn, rc, so, sn, sc, rfl⟩ := C2.shape
      obtain ⟨s', xo', xn', xc', yo', yn', yc', u1, u2, u3, f1, f2, f3, _⟩ := hown2.room hlt
      have hown3 := (hown2.set hlt C2).congr (G := fun i => if i < k + 1 then F i else 0) (fun i hi => by
        by_cases hik : i = k
        · subst hik; rw [updV_at, if_pos (by omega)]
        · rw [updV_ne _ _ hik]
          by_cases h1 : i < k
          · rw [if_pos h1, if_pos (by omega)]
          · rw [if_neg h1, if_neg (by omega)])
      have hbel3 : Below w.heap.size w _ := hbel2.trans (below_stored3 (B := w.heap.size) (w := w2) (Nat.le_refl _) (k * 3) (.bool rb) (.slice ro rn rc) (.slice so sn sc))
      clear hown1 hown2 t1 t2 t3 C2 hr1 hz
      go_wp2_with fail
      go_roundw
      case rel => exact ⟨k + 1, by omega, by go_num, hown3, hbel3⟩
      case measure => simp [intOf]; omega
    · obtain rfl : k = n := by omega
      go_wp2_with fail
      go_ret
      exact ⟨_, rfl, hown.congr (fun i hi => if_pos hi), hbel⟩

end Go.Proofs.Ytcoidofchofljaa
