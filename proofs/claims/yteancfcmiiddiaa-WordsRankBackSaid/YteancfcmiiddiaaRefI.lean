/-
  The contract of the reference's Take. No condition but sizes.
-/
import Derived.Test.YteancfcmiiddiaaStep
namespace Go.Proofs.Yteancfcmiiddiaa
open Go.RowKit
set_option linter.unusedSimpArgs false
set_option linter.unusedVariables false

set_option maxHeartbeats 2000000 in
theorem rTake_any (q : Rat) (v : Value) (w : World) (h : RatV w v q) : Calls Try.prog 101 #[v] w (RatOut w q) := by
  obtain ⟨neg, N, D, ao, bo, n, cap, m, cap', rfl, sN, sD, hN, hD, hza, hzb, hn, hm, hq⟩ := h
  have hV := fun W (hb : Below w.heap.size w W) => rValid_any neg N D hN hD ao bo n m cap cap' W (sN.next hb) (sD.next hb) hza hzb hn hm
  have HV := hid hV; clear hV
  have hB0 : Bk w w.heap.size (.bool neg) (.slice ao n cap) (.slice bo m cap') ((w.alloc (.cells #[.bool neg, .slice ao n cap, .slice bo m cap'] 54)).alloc (.cells #[.bool false, .slice none 0 0, .slice none 0 0] 54)) := (Bk.start (Below.refl _ _) rfl _ _ _ _).new _
  have hG0 : Bk w (w.heap.size + 1) (.bool false) (.slice none 0 0) (.slice none 0 0) ((w.alloc (.cells #[.bool neg, .slice ao n cap, .slice bo m cap'] 54)).alloc (.cells #[.bool false, .slice none 0 0, .slice none 0 0] 54)) := Bk.start (below_alloc _) (by simp) _ _ _ _
  cases hok : ratOk neg N D with
  | false =>
    rw [hok] at HV
    have hq0 : q = 0 := by rw [← hq, ratOf, hok]; rfl
    subst hq0
    clear hok hq
    go_enter Try.func101, Try.ntmps101
    go_wp2_with fail
    refine (HV.out _ hB0.bel).mono ?_; rintro e w1 ⟨rfl, hb1⟩
    have hG := hG0.next hb1
    obtain ⟨d0, d1, d2⟩ := hG.c3
    have f0 := hG.free 0
    have f1 := hG.free 1
    have f2 := hG.free 2
    go_wp2_with fail
    refine bodyPost_ret (v := .agg #[.bool false, .slice none 0 0, .slice none 0 0]) (by simp [results, Try.results101, go_sem, d0, d1, d2]) rfl ?_
    exact hG.res.rc (ratC_zero _)
  | true =>
    rw [hok] at HV
    have hfa := ratOk_facts hN hD hok
    rw [hq] at hfa
    obtain ⟨hN', hneg, hD'⟩ := hfa
    have hD2 : D = denL q := by
      unfold denL
      by_cases hd : D = []
      · rw [if_pos hd] at hD'; rw [if_pos hD']; exact hd
      · rw [if_neg hd] at hD'
        by_cases h1 : q.den = 1
        · exfalso
          unfold ratOk at hok
          simp only [Bool.and_eq_true] at hok
          obtain ⟨_, h3⟩ := hok
          by_cases hN0 : N = []
          · rw [if_pos hN0] at h3; simp at h3; exact hd h3.2
          · rw [if_neg hN0, if_neg hd] at h3
            simp only [Bool.and_eq_true, decide_eq_true_eq] at h3
            apply h3.1
            rw [hD', val_dig]; exact h1
        · rw [if_neg h1]; exact hD'
    have hNl := hid hN'
    have hDl := hid hD2
    have Hneg := hid hneg
    clear hok hN' hneg hD' hD2 hq
    go_enter Try.func101, Try.ntmps101
    go_wp2_with fail
    refine (HV.out _ hB0.bel).mono ?_; rintro e w1 ⟨rfl, hb1⟩
    have hB := hB0.next hb1
    have hG := hG0.next hb1
    clear hB0 hG0 HV
    have sN1 := sN.next hB.bel.drew
    have sD1 := sD.next hB.bel.drew
    obtain ⟨l1, l2, l3⟩ := sN1.app hza
    have hS0 : C3 w.heap.size (.bool neg) (.slice ao n cap) (.slice bo m cap') w1.drew := hB.drew.c3
    have hK : ∀ w' w'', C3 w.heap.size (.bool neg) (.slice ao n cap) (.slice bo m cap') w' → Below w'.heap.size w' w'' → C3 w.heap.size (.bool neg) (.slice ao n cap) (.slice bo m cap') w'' := fun w' w'' h hb => h.next hb
    have hSt : ∀ w' (x y z : Value), C3 w.heap.size (.bool neg) (.slice ao n cap) (.slice bo m cap') w' → C3 w.heap.size (.bool neg) (.slice ao n cap) (.slice bo m cap') (((w'.setCell ⟨w.heap.size + 1, 0, none⟩ x).setCell ⟨w.heap.size + 1, 1, none⟩ y).setCell ⟨w.heap.size + 1, 2, none⟩ z) := fun w' x y z h => h.set3 (by omega) _ _ _
    go_wp2_with fail
    go_region_held3 (fun w' => C3 w.heap.size (.bool neg) (.slice ao n cap) (.slice bo m cap') w')
      (repeat (first | with_reducible assumption | with_reducible exact hSt _ _ _ _ (by assumption) | with_reducible refine hK _ _ ?_ hb2 | with_reducible refine hK _ _ ?_ hb3))
      (first
        | (refine step_app (by rfl) (.const (.slice none 0 0)) (.tmp 10) 52 (by rfl) 64 _ 1 4 Try.underlying52 Try.infoU32 rfl (by decide) w1.drew.heap.size _ 0 [] (by rfl) (World.ownsRow_nil _ _ _ _) ao n cap (u32s N) (by rfl) l1 l2 l3 (u32s_one _) (by omega) (by omega) (Nat.le_refl _) ?_; intro va w2 own2 _ hb2; obtain ⟨xo, xc, rfl, sX, zX⟩ := ownsSlz own2; obtain ⟨m1, m2, m3⟩ := (sD1.next hb2).app hzb)
        | (refine step_app (by rfl) (.const (.slice none 0 0)) (.tmp 13) 52 (by rfl) 64 _ 1 4 Try.underlying52 Try.infoU32 rfl (by decide) w2.heap.size _ 0 [] (by rfl) (World.ownsRow_nil _ _ _ _) bo m cap' (u32s D) (by rfl) m1 m2 m3 (u32s_one _) (by omega) (by omega) (Nat.le_refl _) ?_; intro vb w3 own3 _ hb3; obtain ⟨yo, yc, rfl, sY, zY⟩ := ownsSlz own3; have hG3 := (hG.drew.next hb2).next hb3; obtain ⟨d0, d1, d2⟩ := hG3.c3; have f0 := hG3.free 0; have f1 := hG3.free 1; have f2 := hG3.free 2))
    go_wp2_with fail
    refine bodyPost_ret (v := .agg #[.bool neg, .slice xo (0 + n) xc, .slice yo (0 + m) yc]) (by simp [results, Try.results101, go_sem, d0, d1, d2]) rfl ?_
    rw [Nat.zero_add, Nat.zero_add]
    refine hG3.res.rc ⟨xo, yo, n, xc, m, yc, by rw [Hneg.out], ?_, ?_, zX, zY⟩
    · have := (sX.next hb3)
      rw [Nat.zero_add, List.nil_append, hNl.out] at this
      exact this
    · rw [Nat.zero_add, List.nil_append, hDl.out] at sY
      exact sY

end Go.Proofs.Yteancfcmiiddiaa
