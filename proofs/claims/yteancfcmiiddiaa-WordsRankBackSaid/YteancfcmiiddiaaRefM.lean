/-
  The contracts of the reference's Sub and Compare. No condition but sizes.
-/
import Derived.Test.YteancfcmiiddiaaRefL
namespace Go.Proofs.Yteancfcmiiddiaa
open Go.RowKit
set_option linter.unusedSimpArgs false
set_option linter.unusedVariables false

set_option maxHeartbeats 4000000 in
theorem rSub_any (q r : Rat) (v v2 : Value) (w : World) (h : RatV w v q) (h' : RatV w v2 r) (k : Nat) (hq : Fit k q) (hr' : Fit k r) (hk : k ≤ 4294967296) :
    Calls Try.prog 103 #[v, v2] w (RatOut w (q - r)) := by
  obtain ⟨s, ao, n, cap, bo, m, cap', rfl⟩ := h.shape
  obtain ⟨t, co, n2, cap2, eo, m2, cap3, rfl⟩ := h'.shape
  have hB1 : Bk w w.heap.size (.bool s) (.slice ao n cap) (.slice bo m cap') (((w.alloc (.cells #[.bool s, .slice ao n cap, .slice bo m cap'] 54)).alloc (.cells #[.bool t, .slice co n2 cap2, .slice eo m2 cap3] 54)).alloc (.cells #[.bool false, .slice none 0 0, .slice none 0 0] 54)) := ((Bk.start (Below.refl _ _) rfl _ _ _ _).new _).new _
  have hB2 : Bk w (w.heap.size + 1) (.bool t) (.slice co n2 cap2) (.slice eo m2 cap3) (((w.alloc (.cells #[.bool s, .slice ao n cap, .slice bo m cap'] 54)).alloc (.cells #[.bool t, .slice co n2 cap2, .slice eo m2 cap3] 54)).alloc (.cells #[.bool false, .slice none 0 0, .slice none 0 0] 54)) := (Bk.start (below_alloc _) (by simp) _ _ _ _).new _
  have hG : Bk w (w.heap.size + 1 + 1) (.bool false) (.slice none 0 0) (.slice none 0 0) (((w.alloc (.cells #[.bool s, .slice ao n cap, .slice bo m cap'] 54)).alloc (.cells #[.bool t, .slice co n2 cap2, .slice eo m2 cap3] 54)).alloc (.cells #[.bool false, .slice none 0 0, .slice none 0 0] 54)) := Bk.start (below_new (below_alloc _) _) (by simp) _ _ _ _
  have hsub : Hid (q + -r = q - r) := hid (by rw [Rat.sub_eq_add_neg])
  go_enter Try.func103, Try.ntmps103
  go_wp2_with fail
  generalize ((w.alloc (.cells #[.bool s, .slice ao n cap, .slice bo m cap'] 54)).alloc (.cells #[.bool t, .slice co n2 cap2, .slice eo m2 cap3] 54)).alloc (.cells #[.bool false, .slice none 0 0, .slice none 0 0] 54) = W at *
  have hd := (Below.refl W.heap.size W).drew
  have hS0 : C3 w.heap.size (.bool s) (.slice ao n cap) (.slice bo m cap') W.drew ∧ C3 (w.heap.size + 1) (.bool t) (.slice co n2 cap2) (.slice eo m2 cap3) W.drew := ⟨hB1.c3.next hd, hB2.c3.next hd⟩
  have hK : ∀ w' w'', (C3 w.heap.size (.bool s) (.slice ao n cap) (.slice bo m cap') w' ∧ C3 (w.heap.size + 1) (.bool t) (.slice co n2 cap2) (.slice eo m2 cap3) w') → Below w'.heap.size w' w'' → (C3 w.heap.size (.bool s) (.slice ao n cap) (.slice bo m cap') w'' ∧ C3 (w.heap.size + 1) (.bool t) (.slice co n2 cap2) (.slice eo m2 cap3) w'') := fun w' w'' h hb => ⟨h.1.next hb, h.2.next hb⟩
  have hSt : ∀ w' (x y z : Value), (C3 w.heap.size (.bool s) (.slice ao n cap) (.slice bo m cap') w' ∧ C3 (w.heap.size + 1) (.bool t) (.slice co n2 cap2) (.slice eo m2 cap3) w') → (C3 w.heap.size (.bool s) (.slice ao n cap) (.slice bo m cap') (((w'.setCell ⟨w.heap.size + 1 + 1, 0, none⟩ x).setCell ⟨w.heap.size + 1 + 1, 1, none⟩ y).setCell ⟨w.heap.size + 1 + 1, 2, none⟩ z) ∧ C3 (w.heap.size + 1) (.bool t) (.slice co n2 cap2) (.slice eo m2 cap3) (((w'.setCell ⟨w.heap.size + 1 + 1, 0, none⟩ x).setCell ⟨w.heap.size + 1 + 1, 1, none⟩ y).setCell ⟨w.heap.size + 1 + 1, 2, none⟩ z)) := fun w' x y z h => ⟨h.1.set3 (by omega) _ _ _, h.2.set3 (by omega) _ _ _⟩
  go_region_held3 (fun w' => C3 w.heap.size (.bool s) (.slice ao n cap) (.slice bo m cap') w' ∧ C3 (w.heap.size + 1) (.bool t) (.slice co n2 cap2) (.slice eo m2 cap3) w')
    (repeat (first | with_reducible assumption | with_reducible exact hSt _ _ _ _ (by assumption) | with_reducible refine hK _ _ ?_ hb1 | with_reducible refine hK _ _ ?_ hb2))
    (first
      | (go_at_call 89; refine (rNeg_any r _ _ (h'.next hB1.bel.drew)).mono ?_; rintro e w1 ⟨v1, rfl, C1, hb1⟩)
      | (go_at_call 61; refine (rAdd_any q (-r) _ _ _ (h.next (below_chain hB1.bel.drew hb1)) (C1.toV (fit_neg hr') (by omega)) k hq (fit_neg hr') hk).mono ?_; rintro e w2 ⟨v2, rfl, C2, hb2⟩; obtain ⟨rb, ro, rn, rc, so, sn, sc, rfl⟩ := C2.shape; have hG9 := (hG.drew.next hb1).next hb2; obtain ⟨d0, d1, d2⟩ := hG9.c3; have f0 := hG9.free 0; have f1 := hG9.free 1; have f2 := hG9.free 2))
  go_wp2_with fail
  refine bodyPost_ret (v := .agg #[.bool rb, .slice ro rn rc, .slice so sn sc]) (by simp [results, Try.results103, go_sem, d0, d1, d2]) rfl ?_
  have := ((hG.drew.next hb1).next hb2).res.rc C2
  rw [hsub.out] at this
  exact this

set_option maxHeartbeats 1000000 in
theorem rCompare_any (q r : Rat) (v v2 : Value) (w : World) (h : RatV w v q) (h' : RatV w v2 r) (k : Nat) (hq : Fit k q) (hr' : Fit k r) (hk : k ≤ 4294967296) :
    Calls Try.prog 63 #[v, v2] w fun e w' => e = .returned (.int .i64 (rsg (q - r))) ∧ Below w.heap.size w w' := by
  obtain ⟨s, ao, n, cap, bo, m, cap', rfl⟩ := h.shape
  obtain ⟨t, co, n2, cap2, eo, m2, cap3, rfl⟩ := h'.shape
  have hb0 := ((Below.refl w.heap.size w).alloc (Nat.le_refl _) (.cells #[.bool s, .slice ao n cap, .slice bo m cap'] 54)).alloc (by simp) (.cells #[.bool t, .slice co n2 cap2, .slice eo m2 cap3] 54)
  have hs := fit_sub hq hr'
  go_enter Try.func63, Try.ntmps63
  go_wp2_with fail
  refine (rSub_any q r _ _ _ (h.next hb0) (h'.next hb0) k hq hr' hk).mono ?_; rintro e w1 ⟨v1, rfl, C1, hb1⟩
  have hbel := below_chain hb0 hb1
  go_wp2_with fail
  refine (rSign_any _ _ _ (C1.toV hs (by omega))).mono ?_; rintro e w2 ⟨rfl, hb2⟩
  have hbel2 := below_chain hbel hb2
  go_wp2_with fail
  go_ret
  exact ⟨rfl, hbel2⟩

end Go.Proofs.Yteancfcmiiddiaa
