/-
  The contract of the reference's Add. No condition but sizes.
-/
import Derived.Test.YteancfcmiiddiaaRefK
namespace Go.Proofs.Yteancfcmiiddiaa
open Go.RowKit
set_option linter.unusedSimpArgs false
set_option linter.unusedVariables false

theorem sgn_mul (s : Bool) (a b : Nat) : sgn s (a * b) = sgn s a * (b : Int) := by cases s <;> simp [sgn, Int.neg_mul]
theorem sgn_add (s : Bool) (a b : Nat) : sgn s (a + b) = sgn s a + sgn s b := by cases s <;> simp [sgn] <;> omega
theorem sgn_subx (s : Bool) {a b : Nat} (h : b ≤ a) : sgn s (a - b) = sgn s a + sgn (!s) b := by cases s <;> simp [sgn] <;> omega
theorem sgn_suby (s : Bool) {a b : Nat} (h : a ≤ b) : sgn (!s) (b - a) = sgn s a + sgn (!s) b := by cases s <;> simp [sgn] <;> omega

/-- Three numbers in slots. -/
def ThreeN (X Y Z : Nat) (p5 p6 p7 : Value) (w : World) : Prop :=
  ∃ (po : Option Addr) (pn pc : Nat) (ho : Option Addr) (hn hc : Nat) (qo : Option Addr) (qn qc : Nat), p5 = .slice po pn pc ∧ p6 = .slice ho hn hc ∧ p7 = .slice qo qn qc ∧
    Sl w po pn pc (u32s (dig X)) ∧ Sl w ho hn hc (u32s (dig Y)) ∧ Sl w qo qn qc (u32s (dig Z)) ∧ (po = none → pc = 0) ∧ (ho = none → hc = 0) ∧ (qo = none → qc = 0)

set_option maxHeartbeats 8000000 in
theorem rAdd_any (q r : Rat) (v v2 : Value) (w : World) (h : RatV w v q) (h' : RatV w v2 r) (k : Nat) (hq : Fit k q) (hr' : Fit k r) (hk : k ≤ 4294967296) :
    Calls Try.prog 61 #[v, v2] w (RatOut w (q + r)) := by
  obtain ⟨s, ao, n, cap, bo, m, cap', rfl⟩ := h.shape
  obtain ⟨t, co, n2, cap2, eo, m2, cap3, rfl⟩ := h'.shape
  have hB1 : Bk w w.heap.size (.bool s) (.slice ao n cap) (.slice bo m cap') (((w.alloc (.cells #[.bool s, .slice ao n cap, .slice bo m cap'] 54)).alloc (.cells #[.bool t, .slice co n2 cap2, .slice eo m2 cap3] 54)).alloc (.cells #[.bool false, .slice none 0 0, .slice none 0 0] 54)) := ((Bk.start (Below.refl _ _) rfl _ _ _ _).new _).new _
  have hB2 : Bk w (w.heap.size + 1) (.bool t) (.slice co n2 cap2) (.slice eo m2 cap3) (((w.alloc (.cells #[.bool s, .slice ao n cap, .slice bo m cap'] 54)).alloc (.cells #[.bool t, .slice co n2 cap2, .slice eo m2 cap3] 54)).alloc (.cells #[.bool false, .slice none 0 0, .slice none 0 0] 54)) := (Bk.start (below_alloc _) (by simp) _ _ _ _).new _
  have hG : Bk w (w.heap.size + 1 + 1) (.bool false) (.slice none 0 0) (.slice none 0 0) (((w.alloc (.cells #[.bool s, .slice ao n cap, .slice bo m cap'] 54)).alloc (.cells #[.bool t, .slice co n2 cap2, .slice eo m2 cap3] 54)).alloc (.cells #[.bool false, .slice none 0 0, .slice none 0 0] 54)) := Bk.start (below_new (below_alloc _) _) (by simp) _ _ _ _
  go_enter Try.func61, Try.ntmps61
  go_upto_region 1 with fail
  go_cut [] (fun wx => TwoQ w w.heap.size (w.heap.size + 1) (w.heap.size + 1 + 1) q r wx)
  case first =>
    generalize ((w.alloc (.cells #[.bool s, .slice ao n cap, .slice bo m cap'] 54)).alloc (.cells #[.bool t, .slice co n2 cap2, .slice eo m2 cap3] 54)).alloc (.cells #[.bool false, .slice none 0 0, .slice none 0 0] 54) = W at *
    obtain ⟨a0, a1, a2⟩ := hB1.c3
    obtain ⟨b0, b1, b2⟩ := hB2.c3
    go_region_with ((first
      | (go_at_call_of 101 (Value.agg #[Value.bool s, Value.slice ao n cap, Value.slice bo m cap']); refine (rTake_any q _ _ (h.next hB1.bel.drew)).mono ?_; rintro e w1 ⟨v1, rfl, C1, hb1⟩; obtain ⟨xs, xo, xn, xc, yo, yn, yc, rfl⟩ := C1.shape; obtain ⟨c0, c1, c2⟩ := (hB2.drew.next hb1).c3)
      | (go_at_call_of 101 (Value.agg #[Value.bool t, Value.slice co n2 cap2, Value.slice eo m2 cap3]); refine (rTake_any r _ _ (h'.next (below_chain hB1.bel.drew hb1))).mono ?_; rintro e w2 ⟨v2, rfl, C2, hb2⟩; obtain ⟨ys, zo, zn, zc, uo, un, uc, rfl⟩ := C2.shape; have k1 := (hB1.drew.next hb1).next hb2; have k2 := (hB2.drew.next hb1).next hb2; have kG := (hG.drew.next hb1).next hb2; obtain ⟨c0, c1, c2⟩ := k1.c3; obtain ⟨d0, d1, d2⟩ := k2.c3; have f0 := k1.free 0; have f1 := k1.free 1; have f2 := k1.free 2; have g0 := k2.free 0; have g1 := k2.free 1; have g2 := k2.free 2)))
    all_goals
      go_wp2_with fail
      go_meet
      exact two_put k1 k2 kG (C1.next hb2) C2 (by omega) (by omega) (by omega)
  case rest =>
    clear hB1 hB2 hG h h'
    obtain ⟨⟨xs, xo, xn, xc, yo, yn, yc, k1, C1⟩, ⟨ys, zo, zn, zc, uo, un, uc, k2, C2⟩, kG⟩ := hcut
    obtain ⟨e1, sX, sY, zX, zY⟩ := C1.parts
    obtain ⟨e2, sZ, sU, zZ, zU⟩ := C2.parts
    have hd := (Below.refl wc.heap.size wc).drew
    have hxn : xn ≤ 4294967296 := by rw [← sX.lenU]; exact Nat.le_trans hq.1 hk
    have hzn : zn ≤ 4294967296 := by rw [← sZ.lenU]; exact Nat.le_trans hr'.1 hk
    have S1 := k1.c3; have S2 := k2.c3
    have hlq : lim q.den ≤ 4294967296 := Nat.le_trans hq.2 hk
    have hlr : lim r.den ≤ 4294967296 := Nat.le_trans hr'.2 hk
    have hXl : lim (q.num.natAbs * r.den) ≤ 8589934592 := Nat.le_trans (lim_mul _ _) (Nat.le_trans (Nat.add_le_add hq.1 hr'.2) (by omega))
    have hYl : lim (r.num.natAbs * q.den) ≤ 8589934592 := Nat.le_trans (lim_mul _ _) (Nat.le_trans (Nat.add_le_add hr'.1 hq.2) (by omega))
    have hZl : lim (q.den * r.den) ≤ 8589934592 := Nat.le_trans (lim_mul _ _) (Nat.le_trans (Nat.add_le_add hq.2 hr'.2) (by omega))
    have hZ0 : q.den * r.den ≠ 0 := Nat.mul_ne_zero q.den_nz r.den_nz
    have hsum : Hid (∀ (u : Bool) (A : Nat), sgn u A = sgn xs (q.num.natAbs * r.den) + sgn ys (r.num.natAbs * q.den) → mkRat (sgn u A) (q.den * r.den) = q + r) := hid (fun u A h => by
      rw [Rat.add_def', h, e1, e2, sgn_mul, sgn_mul, sgn_num, sgn_num])
    have T1 := hid (fun w' (h : Below wc.heap.size wc w') (bo : Option Addr) (bn bc : Nat) (sb : Sl w' bo bn bc (u32s (dig r.den))) (hbn : bn ≤ 1099511627776) => rtimesD q.num.natAbs r.den (sX.next h) sb (by omega) hbn)
    have T2 := hid (fun w' (h : Below wc.heap.size wc w') (bo : Option Addr) (bn bc : Nat) (sb : Sl w' bo bn bc (u32s (dig q.den))) (hbn : bn ≤ 1099511627776) => rtimesD r.num.natAbs q.den (sZ.next h) sb (by omega) hbn)
    have T3 := hid (fun w' (ao bo : Option Addr) (an ac bn bc : Nat) (sa : Sl w' ao an ac (u32s (dig q.den))) (sb : Sl w' bo bn bc (u32s (dig r.den))) (han : an ≤ 1099511627776) (hbn : bn ≤ 1099511627776) => rtimesD q.den r.den sa sb han hbn)
    generalize q.num.natAbs * r.den = X at *
    generalize r.num.natAbs * q.den = Y at *
    generalize q.den * r.den = Z at *
    have hS0 : C3 w.heap.size (.bool xs) (.slice xo xn xc) (.slice yo yn yc) wc.drew ∧ C3 (w.heap.size + 1) (.bool ys) (.slice zo zn zc) (.slice uo un uc) wc.drew := ⟨S1.next hd, S2.next hd⟩
    clear e1 e2
    have hK : ∀ w' w'', (C3 w.heap.size (.bool xs) (.slice xo xn xc) (.slice yo yn yc) w' ∧ C3 (w.heap.size + 1) (.bool ys) (.slice zo zn zc) (.slice uo un uc) w') → Below w'.heap.size w' w'' → (C3 w.heap.size (.bool xs) (.slice xo xn xc) (.slice yo yn yc) w'' ∧ C3 (w.heap.size + 1) (.bool ys) (.slice zo zn zc) (.slice uo un uc) w'') := fun w' w'' h hb => ⟨h.1.next hb, h.2.next hb⟩
    have hSt : ∀ w' (x y z : Value), (C3 w.heap.size (.bool xs) (.slice xo xn xc) (.slice yo yn yc) w' ∧ C3 (w.heap.size + 1) (.bool ys) (.slice zo zn zc) (.slice uo un uc) w') → (C3 w.heap.size (.bool xs) (.slice xo xn xc) (.slice yo yn yc) (((w'.setCell ⟨w.heap.size + 1 + 1, 0, none⟩ x).setCell ⟨w.heap.size + 1 + 1, 1, none⟩ y).setCell ⟨w.heap.size + 1 + 1, 2, none⟩ z) ∧ C3 (w.heap.size + 1) (.bool ys) (.slice zo zn zc) (.slice uo un uc) (((w'.setCell ⟨w.heap.size + 1 + 1, 0, none⟩ x).setCell ⟨w.heap.size + 1 + 1, 1, none⟩ y).setCell ⟨w.heap.size + 1 + 1, 2, none⟩ z)) := fun w' x y z h => ⟨h.1.set3 (by omega) _ _ _, h.2.set3 (by omega) _ _ _⟩
    go_wp2_with fail
    go_upto_region 3 with fail
    go_cut [5, 6, 7] (fun s5 s6 s7 wx => ThreeN X Y Z s5 s6 s7 wx ∧ (C3 w.heap.size (.bool xs) (.slice xo xn xc) (.slice yo yn yc) wx ∧ C3 (w.heap.size + 1) (.bool ys) (.slice zo zn zc) (.slice uo un uc) wx) ∧ Bk w (w.heap.size + 1 + 1) (.bool false) (.slice none 0 0) (.slice none 0 0) wx)
    case first =>
      go_region_held3 (fun w' => C3 w.heap.size (.bool xs) (.slice xo xn xc) (.slice yo yn yc) w' ∧ C3 (w.heap.size + 1) (.bool ys) (.slice zo zn zc) (.slice uo un uc) w')
        (repeat (first | with_reducible assumption | with_reducible exact hSt _ _ _ _ (by assumption) | with_reducible refine hK _ _ ?_ hb3 | with_reducible refine hK _ _ ?_ hb4 | with_reducible refine hK _ _ ?_ hb5 | with_reducible refine hK _ _ ?_ hb6 | with_reducible refine hK _ _ ?_ hb7 | with_reducible refine hK _ _ ?_ hb8 | with_reducible refine hK _ _ ?_ hb9))
        (first
          | (go_at_call_of 109 (Value.agg #[Value.bool ys, Value.slice zo zn zc, Value.slice uo un uc]); refine (den_any r _ _ (C2.next hd)).mono ?_; rintro e w3 ⟨do2, dn2, dc2, rfl, sD2, hz2, hb3⟩; have hdn2 : dn2 ≤ 4294967296 := by rw [← sD2.lenU]; exact hlr)
          | (go_at_call_of 108 (Value.slice xo xn xc); refine (T1.out _ (below_chain hd hb3) _ _ _ sD2 (by omega)).mono ?_; rintro e w4 ⟨po, pn, pc, rfl, sP, hzp, hb4, _⟩)
          | (go_at_call_of 109 (Value.agg #[Value.bool xs, Value.slice xo xn xc, Value.slice yo yn yc]); refine (den_any q _ _ (((C1.next hd).next hb3).next hb4)).mono ?_; rintro e w5 ⟨do1, dn1, dc1, rfl, sD1, hz1, hb5⟩; have hdn1 : dn1 ≤ 4294967296 := by rw [← sD1.lenU]; exact hlq)
          | (go_at_call_of 108 (Value.slice zo zn zc); refine (T2.out _ (below_chain (below_chain (below_chain hd hb3) hb4) hb5) _ _ _ sD1 (by omega)).mono ?_; rintro e w6 ⟨ho, hn', hc', rfl, sH, hzh, hb6, _⟩)
          | (go_at_call_of 109 (Value.agg #[Value.bool xs, Value.slice xo xn xc, Value.slice yo yn yc]); refine (den_any q _ _ (((((C1.next hd).next hb3).next hb4).next hb5).next hb6)).mono ?_; rintro e w7 ⟨do3, dn3, dc3, rfl, sD3, hz3, hb7⟩; have hdn3 : dn3 ≤ 4294967296 := by rw [← sD3.lenU]; exact hlq)
          | (go_at_call_of 109 (Value.agg #[Value.bool ys, Value.slice zo zn zc, Value.slice uo un uc]); refine (den_any r _ _ ((((((C2.next hd).next hb3).next hb4).next hb5).next hb6).next hb7)).mono ?_; rintro e w8 ⟨do4, dn4, dc4, rfl, sD4, hz4, hb8⟩; have hdn4 : dn4 ≤ 4294967296 := by rw [← sD4.lenU]; exact hlr)
          | (go_at_call_of 108 (Value.slice do3 dn3 dc3); refine (T3.out _ _ _ _ _ _ _ (sD3.next hb8) sD4 (by omega) (by omega)).mono ?_; rintro e w9 ⟨qo, qn, qc, rfl, sQ, hzq, hb9, _⟩))
      go_wp2_with fail
      go_meet
      exact ⟨⟨_, _, _, _, _, _, _, _, _, rfl, rfl, rfl, ((((sP.next hb5).next hb6).next hb7).next hb8).next hb9, ((sH.next hb7).next hb8).next hb9, sQ, hzp, hzh, hzq⟩, (by with_reducible assumption), ((((((kG.drew.next hb3).next hb4).next hb5).next hb6).next hb7).next hb8).next hb9⟩
    case rest =>
      clear hS0 hK hSt kG S1 S2 k1 k2 C1 C2 T1 T2 T3 sX sY sZ sU hd
      obtain ⟨⟨po, pn, pc, ho, hn', hc', qo, qn, qc, rfl, rfl, rfl, sP, sH, sQ, hzp, hzh, hzq⟩, ⟨S1, S2⟩, kG8⟩ := hcut
      have hpn : pn ≤ 8589934592 := by rw [← sP.lenU]; exact hXl
      have hhn : hn' ≤ 8589934592 := by rw [← sH.lenU]; exact hYl
      have hqn : qn ≤ 17179869184 := by rw [← sQ.lenU]; exact Nat.le_trans hZl (by omega)
      have hd8 := (Below.refl wc.heap.size wc).drew
      obtain ⟨l0, l1, l2⟩ := S1
      obtain ⟨m0, m1, m2⟩ := S2
      have S1 : C3 w.heap.size (.bool xs) (.slice xo xn xc) (.slice yo yn yc) wc := ⟨l0, l1, l2⟩
      have S2 : C3 (w.heap.size + 1) (.bool ys) (.slice zo zn zc) (.slice uo un uc) wc := ⟨m0, m1, m2⟩
      by_cases hst : xs = ys
      · subst hst
        have hss : (xs == xs) = true := by simp
        have hval := hid (hsum.out xs (X + Y) (sgn_add xs X Y))
        have hVl : lim (X + Y) ≤ 17179869184 := Nat.le_trans (lim_add hXl hYl) (by omega)
        clear hsum
        go_wp2_with fail
        have hK : ∀ w' w'', (C3 w.heap.size (.bool xs) (.slice xo xn xc) (.slice yo yn yc) w') → Below w'.heap.size w' w'' → (C3 w.heap.size (.bool xs) (.slice xo xn xc) (.slice yo yn yc) w'') := fun w' w'' h hb => h.next hb
        have hSt : ∀ w' (x y z : Value), (C3 w.heap.size (.bool xs) (.slice xo xn xc) (.slice yo yn yc) w') → (C3 w.heap.size (.bool xs) (.slice xo xn xc) (.slice yo yn yc) (((w'.setCell ⟨w.heap.size + 1 + 1, 0, none⟩ x).setCell ⟨w.heap.size + 1 + 1, 1, none⟩ y).setCell ⟨w.heap.size + 1 + 1, 2, none⟩ z)) := fun w' x y z h => h.set3 (by omega) _ _ _
        have hS1 : C3 w.heap.size (.bool xs) (.slice xo xn xc) (.slice yo yn yc) wc.drew := S1.next hd8
        go_region_held3 (fun w' => C3 w.heap.size (.bool xs) (.slice xo xn xc) (.slice yo yn yc) w')
          (repeat (first | with_reducible assumption | with_reducible exact hSt _ _ _ _ (by assumption) | with_reducible refine hK _ _ ?_ hba | with_reducible refine hK _ _ ?_ hb9))
          (first
            | (go_at_call 111; refine (rplusD X Y (sP.next hd8) (sH.next hd8) (by omega) (by omega)).mono ?_; rintro e wa ⟨vo, vn, vc, rfl, sV, hzv, hba, _⟩; have sQa := (sQ.next hd8).next hba)
            | (go_at_call 110; have hvn : vn ≤ 17179869184 := by rw [← sV.lenU]; exact hVl
               refine (rover_any _ (X + Y) Z hZ0 _ _ _ _ _ _ _ sV sQa hzv hzq hvn hqn).mono ?_; rintro e w9 ⟨v9, rfl, C9, hb9⟩; obtain ⟨rb, ro, rn, rc, so, sn, sc, rfl⟩ := C9.shape; have hG9 := (kG8.drew.next hba).next hb9; obtain ⟨d0, d1, d2⟩ := hG9.c3; have f0 := hG9.free 0; have f1 := hG9.free 1; have f2 := hG9.free 2))
        go_wp2_with fail
        refine bodyPost_ret (v := .agg #[.bool rb, .slice ro rn rc, .slice so sn sc]) (by simp [results, Try.results61, go_sem, d0, d1, d2]) rfl ?_
        have := (((kG8.drew.next hba).next hb9)).res.rc C9
        rw [hval.out] at this
        exact this
      · have hss : (xs == ys) = false := by simpa using hst
        have hyx : ys = !xs := by cases xs <;> cases ys <;> simp_all
        by_cases hge : Y ≤ X
        · have hdo : decide (0 ≤ ord X Y) = true := by
            rw [decide_eq_true_eq]; unfold ord; rw [if_neg (by omega)]; split <;> decide
          have hval := hid (hsum.out xs (X - Y) (by rw [hyx]; exact sgn_subx xs hge))
          have hVl : lim (X - Y) ≤ 17179869184 := Nat.le_trans (lim_mono (Nat.sub_le _ _)) (Nat.le_trans hXl (by omega))
          clear hsum hyx
          go_wp2_with fail
          refine (compare_any X Y _ _ _ _ _ _ _ sP sH).mono ?_; rintro e w9 ⟨rfl, q9, rfl⟩
          obtain ⟨wz, hwz⟩ : ∃ wz, wz = wc.drewN q9 := ⟨_, rfl⟩
          have S1 := S1.next (below_drewNs q9)
          have S2 := S2.next (below_drewNs q9)
          have sP := sP.drewN q9
          have sH := sH.drewN q9
          have sQ := sQ.drewN q9
          have kG8 := kG8.drewN q9
          rw [← hwz] at S1 S2 sP sH sQ kG8 ⊢
          clear hwz hd8 l0 l1 l2 m0 m1 m2
          obtain ⟨l0, l1, l2⟩ := S1
          obtain ⟨m0, m1, m2⟩ := S2
          have S1 : C3 w.heap.size (.bool xs) (.slice xo xn xc) (.slice yo yn yc) wz := ⟨l0, l1, l2⟩
          have S2 : C3 (w.heap.size + 1) (.bool ys) (.slice zo zn zc) (.slice uo un uc) wz := ⟨m0, m1, m2⟩
          have hd8 := (Below.refl wz.heap.size wz).drew
          go_wp2_with fail
          have hK : ∀ w' w'', (C3 w.heap.size (.bool xs) (.slice xo xn xc) (.slice yo yn yc) w') → Below w'.heap.size w' w'' → (C3 w.heap.size (.bool xs) (.slice xo xn xc) (.slice yo yn yc) w'') := fun w' w'' h hb => h.next hb
          have hSt : ∀ w' (x y z : Value), (C3 w.heap.size (.bool xs) (.slice xo xn xc) (.slice yo yn yc) w') → (C3 w.heap.size (.bool xs) (.slice xo xn xc) (.slice yo yn yc) (((w'.setCell ⟨w.heap.size + 1 + 1, 0, none⟩ x).setCell ⟨w.heap.size + 1 + 1, 1, none⟩ y).setCell ⟨w.heap.size + 1 + 1, 2, none⟩ z)) := fun w' x y z h => h.set3 (by omega) _ _ _
          have hS1 : C3 w.heap.size (.bool xs) (.slice xo xn xc) (.slice yo yn yc) wz.drew := S1.next hd8
          go_region_held3 (fun w' => C3 w.heap.size (.bool xs) (.slice xo xn xc) (.slice yo yn yc) w')
            (repeat (first | with_reducible assumption | with_reducible exact hSt _ _ _ _ (by assumption) | with_reducible refine hK _ _ ?_ hba | with_reducible refine hK _ _ ?_ hb9))
            (first
              | (go_at_call 113; refine (rminusD X Y hge (sP.next hd8) (sH.next hd8) (by omega)).mono ?_; rintro e wa ⟨vo, vn, vc, rfl, sV, hzv, hba, _⟩; have sQa := (sQ.next hd8).next hba)
              | (go_at_call 110; have hvn : vn ≤ 17179869184 := by rw [← sV.lenU]; exact hVl
                 refine (rover_any _ (X - Y) Z hZ0 _ _ _ _ _ _ _ sV sQa hzv hzq hvn hqn).mono ?_; rintro e w9 ⟨v9, rfl, C9, hb9⟩; obtain ⟨rb, ro, rn, rc, so, sn, sc, rfl⟩ := C9.shape; have hG9 := (kG8.drew.next hba).next hb9; obtain ⟨d0, d1, d2⟩ := hG9.c3; have f0 := hG9.free 0; have f1 := hG9.free 1; have f2 := hG9.free 2))
          go_wp2_with fail
          refine bodyPost_ret (v := .agg #[.bool rb, .slice ro rn rc, .slice so sn sc]) (by simp [results, Try.results61, go_sem, d0, d1, d2]) rfl ?_
          have := (((kG8.drew.next hba).next hb9)).res.rc C9
          rw [hval.out] at this
          exact this
        · have hdo : decide (0 ≤ ord X Y) = false := by
            rw [decide_eq_false_iff_not]; unfold ord; rw [if_pos (by omega)]; decide
          have hval := hid (hsum.out ys (Y - X) (by rw [hyx]; exact sgn_suby xs (by omega)))
          have hVl : lim (Y - X) ≤ 17179869184 := Nat.le_trans (lim_mono (Nat.sub_le _ _)) (Nat.le_trans hYl (by omega))
          clear hsum hyx
          go_wp2_with fail
          refine (compare_any X Y _ _ _ _ _ _ _ sP sH).mono ?_; rintro e w9 ⟨rfl, q9, rfl⟩
          obtain ⟨wz, hwz⟩ : ∃ wz, wz = wc.drewN q9 := ⟨_, rfl⟩
          have S1 := S1.next (below_drewNs q9)
          have S2 := S2.next (below_drewNs q9)
          have sP := sP.drewN q9
          have sH := sH.drewN q9
          have sQ := sQ.drewN q9
          have kG8 := kG8.drewN q9
          rw [← hwz] at S1 S2 sP sH sQ kG8 ⊢
          clear hwz hd8 l0 l1 l2 m0 m1 m2
          obtain ⟨l0, l1, l2⟩ := S1
          obtain ⟨m0, m1, m2⟩ := S2
          have S1 : C3 w.heap.size (.bool xs) (.slice xo xn xc) (.slice yo yn yc) wz := ⟨l0, l1, l2⟩
          have S2 : C3 (w.heap.size + 1) (.bool ys) (.slice zo zn zc) (.slice uo un uc) wz := ⟨m0, m1, m2⟩
          have hd8 := (Below.refl wz.heap.size wz).drew
          go_wp2_with fail
          have hK : ∀ w' w'', (C3 (w.heap.size + 1) (.bool ys) (.slice zo zn zc) (.slice uo un uc) w') → Below w'.heap.size w' w'' → (C3 (w.heap.size + 1) (.bool ys) (.slice zo zn zc) (.slice uo un uc) w'') := fun w' w'' h hb => h.next hb
          have hSt : ∀ w' (x y z : Value), (C3 (w.heap.size + 1) (.bool ys) (.slice zo zn zc) (.slice uo un uc) w') → (C3 (w.heap.size + 1) (.bool ys) (.slice zo zn zc) (.slice uo un uc) (((w'.setCell ⟨w.heap.size + 1 + 1, 0, none⟩ x).setCell ⟨w.heap.size + 1 + 1, 1, none⟩ y).setCell ⟨w.heap.size + 1 + 1, 2, none⟩ z)) := fun w' x y z h => h.set3 (by omega) _ _ _
          have hS1 : C3 (w.heap.size + 1) (.bool ys) (.slice zo zn zc) (.slice uo un uc) wz.drew := S2.next hd8
          go_region_held3 (fun w' => C3 (w.heap.size + 1) (.bool ys) (.slice zo zn zc) (.slice uo un uc) w')
            (repeat (first | with_reducible assumption | with_reducible exact hSt _ _ _ _ (by assumption) | with_reducible refine hK _ _ ?_ hba | with_reducible refine hK _ _ ?_ hb9))
            (first
              | (go_at_call 113; refine (rminusD Y X (by omega) (sH.next hd8) (sP.next hd8) (by omega)).mono ?_; rintro e wa ⟨vo, vn, vc, rfl, sV, hzv, hba, _⟩; have sQa := (sQ.next hd8).next hba)
              | (go_at_call 110; have hvn : vn ≤ 17179869184 := by rw [← sV.lenU]; exact hVl
                 refine (rover_any _ (Y - X) Z hZ0 _ _ _ _ _ _ _ sV sQa hzv hzq hvn hqn).mono ?_; rintro e w9 ⟨v9, rfl, C9, hb9⟩; obtain ⟨rb, ro, rn, rc, so, sn, sc, rfl⟩ := C9.shape; have hG9 := (kG8.drew.next hba).next hb9; obtain ⟨d0, d1, d2⟩ := hG9.c3; have f0 := hG9.free 0; have f1 := hG9.free 1; have f2 := hG9.free 2))
          go_wp2_with fail
          refine bodyPost_ret (v := .agg #[.bool rb, .slice ro rn rc, .slice so sn sc]) (by simp [results, Try.results61, go_sem, d0, d1, d2]) rfl ?_
          have := (((kG8.drew.next hba).next hb9)).res.rc C9
          rw [hval.out] at this
          exact this

end Go.Proofs.Yteancfcmiiddiaa
