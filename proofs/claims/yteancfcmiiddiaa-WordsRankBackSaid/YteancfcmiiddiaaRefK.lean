/-
  The contracts of the reference's Mul and Quo. Conditions: sizes; the divisor is not 0.
-/
import Derived.Test.YteancfcmiiddiaaRefJ
namespace Go.Proofs.Yteancfcmiiddiaa
open Go.RowKit
set_option linter.unusedSimpArgs false
set_option linter.unusedVariables false

set_option maxHeartbeats 4000000 in
theorem rMul_any (q r : Rat) (v v2 : Value) (w : World) (h : RatV w v q) (h' : RatV w v2 r) (k : Nat) (hq : Fit k q) (hr' : Fit k r) (hk : k ≤ 4294967296) :
    Calls Try.prog 81 #[v, v2] w (RatOut w (q * r)) := by
  obtain ⟨s, ao, n, cap, bo, m, cap', rfl⟩ := h.shape
  obtain ⟨t, co, n2, cap2, eo, m2, cap3, rfl⟩ := h'.shape
  have hB1 : Bk w w.heap.size (.bool s) (.slice ao n cap) (.slice bo m cap') (((w.alloc (.cells #[.bool s, .slice ao n cap, .slice bo m cap'] 54)).alloc (.cells #[.bool t, .slice co n2 cap2, .slice eo m2 cap3] 54)).alloc (.cells #[.bool false, .slice none 0 0, .slice none 0 0] 54)) := ((Bk.start (Below.refl _ _) rfl _ _ _ _).new _).new _
  have hB2 : Bk w (w.heap.size + 1) (.bool t) (.slice co n2 cap2) (.slice eo m2 cap3) (((w.alloc (.cells #[.bool s, .slice ao n cap, .slice bo m cap'] 54)).alloc (.cells #[.bool t, .slice co n2 cap2, .slice eo m2 cap3] 54)).alloc (.cells #[.bool false, .slice none 0 0, .slice none 0 0] 54)) := (Bk.start (below_alloc _) (by simp) _ _ _ _).new _
  have hG : Bk w (w.heap.size + 1 + 1) (.bool false) (.slice none 0 0) (.slice none 0 0) (((w.alloc (.cells #[.bool s, .slice ao n cap, .slice bo m cap'] 54)).alloc (.cells #[.bool t, .slice co n2 cap2, .slice eo m2 cap3] 54)).alloc (.cells #[.bool false, .slice none 0 0, .slice none 0 0] 54)) := Bk.start (below_new (below_alloc _) _) (by simp) _ _ _ _
  go_enter Try.func81, Try.ntmps81
  go_upto_region 1 with fail
  go_cut [] (fun wx => TwoQ w w.heap.size (w.heap.size + 1) (w.heap.size + 1 + 1) q r wx)
  case first =>
    generalize ((w.alloc (.cells #[.bool s, .slice ao n cap, .slice bo m cap'] 54)).alloc (.cells #[.bool t, .slice co n2 cap2, .slice eo m2 cap3] 54)).alloc (.cells #[.bool false, .slice none 0 0, .slice none 0 0] 54) = W at *
    obtain ⟨a0, a1, a2⟩ := hB1.c3
    obtain ⟨b0, b1, b2⟩ := hB2.c3
    go_region_with ((first
      | (go_at_call_of 101 (Value.agg #[Value.bool s, Value.slice ao n cap, Value.slice bo m cap']); refine (rTake_any q _ _ (h.next hB1.bel.drew)).mono ?_; rintro e w1 ⟨v1, rfl, C1, hb1⟩; obtain ⟨xs, xo, xn, xc, yo, yn, yc, rfl⟩ := C1.shape; obtain ⟨c0, c1, c2⟩ := (hB2.drew.next hb1).c3)
      | (go_at_call_of 101 (Value.agg #[Value.bool t, Value.slice co n2 cap2, Value.slice eo m2 cap3]); refine (rTake_any r _ _ (h'.next (below_chain hB1.bel.drew hb1))).mono ?_; rintro e w2 ⟨v2, rfl, C2, hb2⟩; obtain ⟨ys, zo, zn, zc, uo, un, uc, rfl⟩ := C2.shape; have k1 := (hB1.drew.next hb1).next hb2; have k2 := (hB2.drew.next hb1).next hb2; have kG := (hG.drew.next hb1).next hb2; obtain ⟨c0, c1, c2⟩ := k1.c3; obtain ⟨d0, d1, d2⟩ := k2.c3; have f0 := k1.free 0; have f1 := k1.free 1; have f2 := k1.free 2; have g0 := k2.free 0; have g1 := k2.free 1; have g2 := k2.free 2)))
    all_goals
      go_wp2_with fail
      go_meet
      exact two_put k1 k2 kG (C1.next hb2) C2 (by omega) (by omega) (by omega)
  case rest =>
    clear hB1 hB2 hG h h'
    obtain ⟨⟨xs, xo, xn, xc, yo, yn, yc, k1, C1⟩, ⟨ys, zo, zn, zc, uo, un, uc, k2, C2⟩, kG⟩ := hcut
    obtain ⟨e1, sX, sY, zX, zY⟩ := C1.parts
    obtain ⟨e2, sZ, sU, zZ, zU⟩ := C2.parts
    have hd := (Below.refl wc.heap.size wc).drew
    have hxn : xn ≤ 4294967296 := by rw [← sX.lenU]; exact Nat.le_trans hq.1 hk
    have hzn : zn ≤ 4294967296 := by rw [← sZ.lenU]; exact Nat.le_trans hr'.1 hk
    have S1 := k1.c3; have S2 := k2.c3
    have hlq : lim q.den ≤ 4294967296 := Nat.le_trans hq.2 hk
    have hlr : lim r.den ≤ 4294967296 := Nat.le_trans hr'.2 hk
    have hA' : lim (q.num.natAbs * r.num.natAbs) ≤ 17179869184 := Nat.le_trans (lim_mul _ _) (Nat.le_trans (Nat.add_le_add hq.1 hr'.1) (by omega))
    have hB' : lim (q.den * r.den) ≤ 17179869184 := Nat.le_trans (lim_mul _ _) (Nat.le_trans (Nat.add_le_add hq.2 hr'.2) (by omega))
    have hn0 : q.den * r.den ≠ 0 := Nat.mul_ne_zero q.den_nz r.den_nz
    have hrat : Hid (mkRat (sgn (decide (q.num < 0) != decide (r.num < 0)) (q.num.natAbs * r.num.natAbs)) (q.den * r.den) = q * r) := hid (by rw [sgn_xor, sgn_num, sgn_num, ← Rat.mul_def'])
    rw [← e1, ← e2] at hrat
    have hS0 : C3 w.heap.size (.bool xs) (.slice xo xn xc) (.slice yo yn yc) wc.drew ∧ C3 (w.heap.size + 1) (.bool ys) (.slice zo zn zc) (.slice uo un uc) wc.drew := ⟨S1.next hd, S2.next hd⟩
    clear S1 S2 e1 e2 
    have hK : ∀ w' w'', (C3 w.heap.size (.bool xs) (.slice xo xn xc) (.slice yo yn yc) w' ∧ C3 (w.heap.size + 1) (.bool ys) (.slice zo zn zc) (.slice uo un uc) w') → Below w'.heap.size w' w'' → (C3 w.heap.size (.bool xs) (.slice xo xn xc) (.slice yo yn yc) w'' ∧ C3 (w.heap.size + 1) (.bool ys) (.slice zo zn zc) (.slice uo un uc) w'') := fun w' w'' h hb => ⟨h.1.next hb, h.2.next hb⟩
    have hSt : ∀ w' (x y z : Value), (C3 w.heap.size (.bool xs) (.slice xo xn xc) (.slice yo yn yc) w' ∧ C3 (w.heap.size + 1) (.bool ys) (.slice zo zn zc) (.slice uo un uc) w') → (C3 w.heap.size (.bool xs) (.slice xo xn xc) (.slice yo yn yc) (((w'.setCell ⟨w.heap.size + 1 + 1, 0, none⟩ x).setCell ⟨w.heap.size + 1 + 1, 1, none⟩ y).setCell ⟨w.heap.size + 1 + 1, 2, none⟩ z) ∧ C3 (w.heap.size + 1) (.bool ys) (.slice zo zn zc) (.slice uo un uc) (((w'.setCell ⟨w.heap.size + 1 + 1, 0, none⟩ x).setCell ⟨w.heap.size + 1 + 1, 1, none⟩ y).setCell ⟨w.heap.size + 1 + 1, 2, none⟩ z)) := fun w' x y z h => ⟨h.1.set3 (by omega) _ _ _, h.2.set3 (by omega) _ _ _⟩
    go_wp2_with fail
    go_region_held3 (fun w' => C3 w.heap.size (.bool xs) (.slice xo xn xc) (.slice yo yn yc) w' ∧ C3 (w.heap.size + 1) (.bool ys) (.slice zo zn zc) (.slice uo un uc) w')
      (repeat (first | with_reducible assumption | with_reducible exact hSt _ _ _ _ (by assumption) | with_reducible refine hK _ _ ?_ hb3 | with_reducible refine hK _ _ ?_ hb4 | with_reducible refine hK _ _ ?_ hb5 | with_reducible refine hK _ _ ?_ hb6 | with_reducible refine hK _ _ ?_ hb9))
      (first
        | (go_at_call_of 108 (Value.slice xo xn xc); refine (rtimesD q.num.natAbs r.num.natAbs (sX.next hd) (sZ.next hd) (by omega) (by omega)).mono ?_; rintro e w3 ⟨po, pn, pc, rfl, sP, hzp, hb3, _⟩)
        | (go_at_call_of 109 (Value.agg #[Value.bool xs, Value.slice xo xn xc, Value.slice yo yn yc]); refine (den_any q _ _ ((C1.next hd).next hb3)).mono ?_; rintro e w4 ⟨do1, dn1, dc1, rfl, sD1, hz1, hb4⟩; have hdn1 : dn1 ≤ 4294967296 := by rw [← sD1.lenU]; exact hlq)
        | (go_at_call_of 109 (Value.agg #[Value.bool ys, Value.slice zo zn zc, Value.slice uo un uc]); refine (den_any r _ _ (((C2.next hd).next hb3).next hb4)).mono ?_; rintro e w5 ⟨do2, dn2, dc2, rfl, sD2, hz2, hb5⟩; have hdn2 : dn2 ≤ 4294967296 := by rw [← sD2.lenU]; exact hlr)
        | (go_at_call_of 108 (Value.slice do1 dn1 dc1); refine (rtimesD q.den r.den (sD1.next hb5) sD2 (by omega) (by omega)).mono ?_; rintro e w6 ⟨qo, qn, qc, rfl, sQ, hzq, hb6, _⟩; have sP6 := ((sP.next hb4).next hb5).next hb6)
        | (go_at_call 110; have hpn : pn ≤ 17179869184 := by rw [← sP6.lenU]; exact hA'
           have hqn : qn ≤ 17179869184 := by rw [← sQ.lenU]; exact hB'
           refine (rover_any _ (q.num.natAbs * r.num.natAbs) (q.den * r.den) hn0 _ _ _ _ _ _ _ sP6 sQ hzp hzq hpn hqn).mono ?_; rintro e w9 ⟨v9, rfl, C9, hb9⟩; obtain ⟨rb, ro, rn, rc, so, sn, sc, rfl⟩ := C9.shape; have hG9 := ((((kG.drew.next hb3).next hb4).next hb5).next hb6).next hb9; obtain ⟨d0, d1, d2⟩ := hG9.c3; have f0 := hG9.free 0; have f1 := hG9.free 1; have f2 := hG9.free 2))
    go_wp2_with fail
    refine bodyPost_ret (v := .agg #[.bool rb, .slice ro rn rc, .slice so sn sc]) (by simp [results, Try.results81, go_sem, d0, d1, d2]) rfl ?_
    have := ((((((kG.drew.next hb3).next hb4).next hb5).next hb6).next hb9)).res.rc C9
    rw [show (!(xs == ys)) = (xs != ys) from rfl, hrat.out] at this
    exact this

set_option maxHeartbeats 4000000 in
theorem rQuo_any (q r : Rat) (hr0 : r ≠ 0) (v v2 : Value) (w : World) (h : RatV w v q) (h' : RatV w v2 r) (k : Nat) (hq : Fit k q) (hr' : Fit k r) (hk : k ≤ 4294967296) :
    Calls Try.prog 105 #[v, v2] w (RatOut w (q / r)) := by
  have hrn : r.num.natAbs ≠ 0 := fun h => hr0 (Rat.num_eq_zero.1 (Int.natAbs_eq_zero.1 h))
  obtain ⟨s, ao, n, cap, bo, m, cap', rfl⟩ := h.shape
  obtain ⟨t, co, n2, cap2, eo, m2, cap3, rfl⟩ := h'.shape
  have hB1 : Bk w w.heap.size (.bool s) (.slice ao n cap) (.slice bo m cap') (((w.alloc (.cells #[.bool s, .slice ao n cap, .slice bo m cap'] 54)).alloc (.cells #[.bool t, .slice co n2 cap2, .slice eo m2 cap3] 54)).alloc (.cells #[.bool false, .slice none 0 0, .slice none 0 0] 54)) := ((Bk.start (Below.refl _ _) rfl _ _ _ _).new _).new _
  have hB2 : Bk w (w.heap.size + 1) (.bool t) (.slice co n2 cap2) (.slice eo m2 cap3) (((w.alloc (.cells #[.bool s, .slice ao n cap, .slice bo m cap'] 54)).alloc (.cells #[.bool t, .slice co n2 cap2, .slice eo m2 cap3] 54)).alloc (.cells #[.bool false, .slice none 0 0, .slice none 0 0] 54)) := (Bk.start (below_alloc _) (by simp) _ _ _ _).new _
  have hG : Bk w (w.heap.size + 1 + 1) (.bool false) (.slice none 0 0) (.slice none 0 0) (((w.alloc (.cells #[.bool s, .slice ao n cap, .slice bo m cap'] 54)).alloc (.cells #[.bool t, .slice co n2 cap2, .slice eo m2 cap3] 54)).alloc (.cells #[.bool false, .slice none 0 0, .slice none 0 0] 54)) := Bk.start (below_new (below_alloc _) _) (by simp) _ _ _ _
  go_enter Try.func105, Try.ntmps105
  go_upto_region 1 with fail
  go_cut [] (fun wx => TwoQ w w.heap.size (w.heap.size + 1) (w.heap.size + 1 + 1) q r wx)
  case first =>
    generalize ((w.alloc (.cells #[.bool s, .slice ao n cap, .slice bo m cap'] 54)).alloc (.cells #[.bool t, .slice co n2 cap2, .slice eo m2 cap3] 54)).alloc (.cells #[.bool false, .slice none 0 0, .slice none 0 0] 54) = W at *
    obtain ⟨a0, a1, a2⟩ := hB1.c3
    obtain ⟨b0, b1, b2⟩ := hB2.c3
    go_region_with ((first
      | (go_at_call_of 101 (Value.agg #[Value.bool s, Value.slice ao n cap, Value.slice bo m cap']); refine (rTake_any q _ _ (h.next hB1.bel.drew)).mono ?_; rintro e w1 ⟨v1, rfl, C1, hb1⟩; obtain ⟨xs, xo, xn, xc, yo, yn, yc, rfl⟩ := C1.shape; obtain ⟨c0, c1, c2⟩ := (hB2.drew.next hb1).c3)
      | (go_at_call_of 101 (Value.agg #[Value.bool t, Value.slice co n2 cap2, Value.slice eo m2 cap3]); refine (rTake_any r _ _ (h'.next (below_chain hB1.bel.drew hb1))).mono ?_; rintro e w2 ⟨v2, rfl, C2, hb2⟩; obtain ⟨ys, zo, zn, zc, uo, un, uc, rfl⟩ := C2.shape; have k1 := (hB1.drew.next hb1).next hb2; have k2 := (hB2.drew.next hb1).next hb2; have kG := (hG.drew.next hb1).next hb2; obtain ⟨c0, c1, c2⟩ := k1.c3; obtain ⟨d0, d1, d2⟩ := k2.c3; have f0 := k1.free 0; have f1 := k1.free 1; have f2 := k1.free 2; have g0 := k2.free 0; have g1 := k2.free 1; have g2 := k2.free 2)))
    all_goals
      go_wp2_with fail
      go_meet
      exact two_put k1 k2 kG (C1.next hb2) C2 (by omega) (by omega) (by omega)
  case rest =>
    clear hB1 hB2 hG h h'
    obtain ⟨⟨xs, xo, xn, xc, yo, yn, yc, k1, C1⟩, ⟨ys, zo, zn, zc, uo, un, uc, k2, C2⟩, kG⟩ := hcut
    obtain ⟨e1, sX, sY, zX, zY⟩ := C1.parts
    obtain ⟨e2, sZ, sU, zZ, zU⟩ := C2.parts
    have hd := (Below.refl wc.heap.size wc).drew
    have hxn : xn ≤ 4294967296 := by rw [← sX.lenU]; exact Nat.le_trans hq.1 hk
    have hzn : zn ≤ 4294967296 := by rw [← sZ.lenU]; exact Nat.le_trans hr'.1 hk
    have S1 := k1.c3; have S2 := k2.c3
    have hlq : lim q.den ≤ 4294967296 := Nat.le_trans hq.2 hk
    have hlr : lim r.den ≤ 4294967296 := Nat.le_trans hr'.2 hk
    have hA' : lim (q.num.natAbs * r.den) ≤ 17179869184 := Nat.le_trans (lim_mul _ _) (Nat.le_trans (Nat.add_le_add hq.1 hr'.2) (by omega))
    have hB' : lim (q.den * r.num.natAbs) ≤ 17179869184 := Nat.le_trans (lim_mul _ _) (Nat.le_trans (Nat.add_le_add hq.2 hr'.1) (by omega))
    have hn0 : q.den * r.num.natAbs ≠ 0 := Nat.mul_ne_zero q.den_nz hrn
    have hrat : Hid (mkRat (sgn (decide (q.num < 0) != decide (r.num < 0)) (q.num.natAbs * r.den)) (q.den * r.num.natAbs) = q / r) := hid (by exact div_core q r)
    rw [← e1, ← e2] at hrat
    have hS0 : C3 w.heap.size (.bool xs) (.slice xo xn xc) (.slice yo yn yc) wc.drew ∧ C3 (w.heap.size + 1) (.bool ys) (.slice zo zn zc) (.slice uo un uc) wc.drew := ⟨S1.next hd, S2.next hd⟩
    clear S1 S2 e1 e2 hr0
    have hK : ∀ w' w'', (C3 w.heap.size (.bool xs) (.slice xo xn xc) (.slice yo yn yc) w' ∧ C3 (w.heap.size + 1) (.bool ys) (.slice zo zn zc) (.slice uo un uc) w') → Below w'.heap.size w' w'' → (C3 w.heap.size (.bool xs) (.slice xo xn xc) (.slice yo yn yc) w'' ∧ C3 (w.heap.size + 1) (.bool ys) (.slice zo zn zc) (.slice uo un uc) w'') := fun w' w'' h hb => ⟨h.1.next hb, h.2.next hb⟩
    have hSt : ∀ w' (x y z : Value), (C3 w.heap.size (.bool xs) (.slice xo xn xc) (.slice yo yn yc) w' ∧ C3 (w.heap.size + 1) (.bool ys) (.slice zo zn zc) (.slice uo un uc) w') → (C3 w.heap.size (.bool xs) (.slice xo xn xc) (.slice yo yn yc) (((w'.setCell ⟨w.heap.size + 1 + 1, 0, none⟩ x).setCell ⟨w.heap.size + 1 + 1, 1, none⟩ y).setCell ⟨w.heap.size + 1 + 1, 2, none⟩ z) ∧ C3 (w.heap.size + 1) (.bool ys) (.slice zo zn zc) (.slice uo un uc) (((w'.setCell ⟨w.heap.size + 1 + 1, 0, none⟩ x).setCell ⟨w.heap.size + 1 + 1, 1, none⟩ y).setCell ⟨w.heap.size + 1 + 1, 2, none⟩ z)) := fun w' x y z h => ⟨h.1.set3 (by omega) _ _ _, h.2.set3 (by omega) _ _ _⟩
    go_wp2_with fail
    go_region_held3 (fun w' => C3 w.heap.size (.bool xs) (.slice xo xn xc) (.slice yo yn yc) w' ∧ C3 (w.heap.size + 1) (.bool ys) (.slice zo zn zc) (.slice uo un uc) w')
      (repeat (first | with_reducible assumption | with_reducible exact hSt _ _ _ _ (by assumption) | with_reducible refine hK _ _ ?_ hb3 | with_reducible refine hK _ _ ?_ hb4 | with_reducible refine hK _ _ ?_ hb5 | with_reducible refine hK _ _ ?_ hb6 | with_reducible refine hK _ _ ?_ hb9))
      (first
        | (go_at_call_of 109 (Value.agg #[Value.bool ys, Value.slice zo zn zc, Value.slice uo un uc]); refine (den_any r _ _ (C2.next hd)).mono ?_; rintro e w3 ⟨do2, dn2, dc2, rfl, sD2, hz2, hb3⟩; have hdn2 : dn2 ≤ 4294967296 := by rw [← sD2.lenU]; exact hlr)
        | (go_at_call_of 108 (Value.slice xo xn xc); refine (rtimesD q.num.natAbs r.den ((sX.next hd).next hb3) sD2 (by omega) (by omega)).mono ?_; rintro e w4 ⟨po, pn, pc, rfl, sP, hzp, hb4, _⟩)
        | (go_at_call_of 109 (Value.agg #[Value.bool xs, Value.slice xo xn xc, Value.slice yo yn yc]); refine (den_any q _ _ (((C1.next hd).next hb3).next hb4)).mono ?_; rintro e w5 ⟨do1, dn1, dc1, rfl, sD1, hz1, hb5⟩; have hdn1 : dn1 ≤ 4294967296 := by rw [← sD1.lenU]; exact hlq)
        | (go_at_call_of 108 (Value.slice do1 dn1 dc1); refine (rtimesD q.den r.num.natAbs sD1 ((((sZ.next hd).next hb3).next hb4).next hb5) (by omega) (by omega)).mono ?_; rintro e w6 ⟨qo, qn, qc, rfl, sQ, hzq, hb6, _⟩; have sP6 := (sP.next hb5).next hb6)
        | (go_at_call 110; have hpn : pn ≤ 17179869184 := by rw [← sP6.lenU]; exact hA'
           have hqn : qn ≤ 17179869184 := by rw [← sQ.lenU]; exact hB'
           refine (rover_any _ (q.num.natAbs * r.den) (q.den * r.num.natAbs) hn0 _ _ _ _ _ _ _ sP6 sQ hzp hzq hpn hqn).mono ?_; rintro e w9 ⟨v9, rfl, C9, hb9⟩; obtain ⟨rb, ro, rn, rc, so, sn, sc, rfl⟩ := C9.shape; have hG9 := ((((kG.drew.next hb3).next hb4).next hb5).next hb6).next hb9; obtain ⟨d0, d1, d2⟩ := hG9.c3; have f0 := hG9.free 0; have f1 := hG9.free 1; have f2 := hG9.free 2))
    go_wp2_with fail
    refine bodyPost_ret (v := .agg #[.bool rb, .slice ro rn rc, .slice so sn sc]) (by simp [results, Try.results105, go_sem, d0, d1, d2]) rfl ?_
    have := ((((((kG.drew.next hb3).next hb4).next hb5).next hb6).next hb9)).res.rc C9
    rw [show (!(xs == ys)) = (xs != ys) from rfl, hrat.out] at this
    exact this

end Go.Proofs.Yteancfcmiiddiaa
