/-
  Joined out of XFlo, XRatJ, XRefN, XRefO, XRatK, XRefQ.
-/
import Derived.Test.YtjppjhjfogjhaaaGreatDoorRatM
import Derived.Test.YtjppjhjfogjhaaaGreatDoorRatY
import Derived.Test.YtjppjhjfogjhaaaGreatDoorRefY

/-
  Rounding down of rationals: plain facts. No condition.
-/
namespace Go.Proofs.YtjppjhjfogjhaaaGreatDoor
open Go.RowKit

theorem floor_unique {a : Rat} {z : Int} (h1 : (z : Rat) ≤ a) (h2 : a < (z : Rat) + 1) : a.floor = z := by
  have h3 := Rat.floor_le a
  have h4 := Rat.lt_floor_add_one a
  rw [Rat.intCast_add] at h4
  have h5 : (z : Rat) < ((a.floor + 1 : Int) : Rat) := by rw [Rat.intCast_add]; grind
  have h6 : (a.floor : Rat) < ((z + 1 : Int) : Rat) := by rw [Rat.intCast_add]; grind
  have h7 := Rat.intCast_lt_intCast.1 h5
  have h8 := Rat.intCast_lt_intCast.1 h6
  omega
theorem le_of_mul {a b d : Rat} (hd : 0 < d) (h : a * d ≤ b * d) : a ≤ b := by
  apply Rat.not_lt.1
  intro hlt
  have := Rat.mul_lt_mul_of_pos_right hlt hd
  grind
theorem lt_of_mul {a b d : Rat} (hd : 0 < d) (h : a * d < b * d) : a < b := by
  apply Rat.not_le.1
  intro hle
  have := Rat.mul_le_mul_of_nonneg_right hle (Rat.le_of_lt hd)
  grind

/-- The whole part of a fraction, rounded down. -/
def floorN (neg : Bool) (N D : Nat) : Nat := if neg = true ∧ N % D ≠ 0 then N / D + 1 else N / D

theorem mk_times (z : Int) {D : Nat} (hD : 0 < D) : mkRat z D * (D : Rat) = (z : Rat) := by
  rw [Rat.mkRat_eq_div]
  have : (D : Rat) ≠ 0 := by
    intro h
    have : ((D : Int) : Rat) = ((0 : Int) : Rat) := h
    have := Rat.intCast_inj.1 this
    omega
  grind

theorem pos_cast {D : Nat} (hD : 0 < D) : (0 : Rat) < (D : Rat) := by
  have : ((0 : Int) : Rat) < ((D : Int) : Rat) := Rat.intCast_lt_intCast.2 (by omega)
  exact this

theorem floor_frac (neg : Bool) (N D : Nat) (hD : 0 < D) : (mkRat (sgn neg N) D).floor = sgn neg (floorN neg N D) := by
  have hDp := pos_cast hD
  have e1 := Nat.mod_add_div N D
  have e2 := Nat.mod_lt N hD
  have key : sgn neg (floorN neg N D) * (D : Int) ≤ sgn neg N ∧ sgn neg N < (sgn neg (floorN neg N D) + 1) * (D : Int) := by
    generalize hq : N / D = Q at *
    generalize hr : N % D = R at *
    have e3 : (N : Int) = R + D * Q := by rw [← e1]; simp
    unfold floorN sgn
    rw [hq, hr]
    cases neg with
    | false =>
      simp only [Bool.false_eq_true, false_and, if_false]
      rw [e3, Int.add_mul, Int.mul_comm (Q : Int)]
      omega
    | true =>
      simp only [true_and, if_true]
      by_cases hR : R = 0
      · subst hR
        simp only [ne_eq, not_true_eq_false, if_false]
        rw [e3, Int.add_mul, Int.neg_mul, Int.mul_comm (Q : Int)]
        omega
      · simp only [ne_eq, hR, not_false_eq_true, if_true]
        rw [e3, Int.natCast_add, Int.natCast_one, Int.add_mul, Int.neg_mul, Int.add_mul, Int.mul_comm (Q : Int)]
        omega
  obtain ⟨k1, k2⟩ := key
  apply floor_unique
  · apply le_of_mul hDp
    rw [mk_times _ hD]
    have := Rat.intCast_le_intCast.2 k1
    rw [Rat.intCast_mul] at this
    exact this
  · apply lt_of_mul hDp
    rw [mk_times _ hD]
    have := Rat.intCast_lt_intCast.2 k2
    rw [Rat.intCast_mul, Rat.intCast_add] at this
    exact this

/-- The greatest multiple of 2 to the power of -b that is at most q. -/
def downQ (q : Rat) (b : Nat) : Rat := (((q * ((2 ^ b : Nat) : Rat)).floor : Int) : Rat) / ((2 ^ b : Nat) : Rat)

theorem mul_pow_mk (q : Rat) (c : Nat) : q * (c : Rat) = mkRat (sgn (decide (q.num < 0)) (q.num.natAbs * c)) q.den := by
  have : (c : Rat) = mkRat (c : Int) 1 := by rw [Rat.mkRat_eq_div, Rat.intCast_natCast]; grind
  rw [this]
  conv => lhs; rw [← Rat.mkRat_self q]
  rw [Rat.mkRat_mul_mkRat, Nat.mul_one]
  congr 1
  have h := sgn_num q
  unfold sgn at h ⊢
  split at h
  · rw [if_pos (by assumption)]; rw [← h]; simp [Int.neg_mul]
  · rw [if_neg (by assumption)]; rw [← h]; simp

theorem down_core (q : Rat) (b : Nat) : mkRat (sgn (decide (q.num < 0)) (floorN (decide (q.num < 0)) (q.num.natAbs * 2 ^ b) q.den)) (2 ^ b) = downQ q b := by
  unfold downQ
  rw [mul_pow_mk, floor_frac _ _ _ (Nat.pos_of_ne_zero q.den_nz), Rat.mkRat_eq_div]

theorem lim_pow2 {b : Nat} (h : b ≤ 256) : lim (2 ^ b) ≤ 9 := by
  apply lim_le
  calc 2 ^ b ≤ 2 ^ 256 := Nat.pow_le_pow_right (by decide) h
    _ < 4294967296 ^ 9 := by decide

end Go.Proofs.YtjppjhjfogjhaaaGreatDoor

/-
  The contracts of rational.Down and Up. No condition but sizes.
-/
namespace Go.Proofs.YtjppjhjfogjhaaaGreatDoor
open Go.RowKit
set_option linter.unusedSimpArgs false
set_option linter.unusedVariables false

/-- Down for any int. -/
def downI (q : Rat) (i : Int) : Rat := if 0 ≤ i ∧ i ≤ 256 then downQ q i.toNat else 0

theorem floorN_le (neg : Bool) (N : Nat) {D : Nat} : floorN neg N D ≤ N + 1 := by
  unfold floorN
  have := Nat.div_le_self N D
  split <;> omega

set_option maxHeartbeats 4000000 in
theorem Down_any (q : Rat) (i : Int) (v : Value) (w : World) (h : RatV w v q) (k : Nat) (hq : Fit k q) (hk : k ≤ 4294967296) :
    Calls Tryz.prog 14 #[v, .int .i64 i] w (RatOut w (downI q i)) := by
  obtain ⟨s, ao, n, cap, bo, m, cap', rfl⟩ := h.shape
  have hG0 : Bk w (w.heap.size + 1) (.bool false) (.slice none 0 0) (.slice none 0 0) ((w.alloc (.cells #[.bool s, .slice ao n cap, .slice bo m cap'] 24)).alloc (.cells #[.bool false, .slice none 0 0, .slice none 0 0] 24)) := Bk.start (below_alloc _) (by simp) _ _ _ _
  by_cases hi : 0 ≤ i ∧ i ≤ 256
  · obtain ⟨b, rfl⟩ := Int.eq_ofNat_of_zero_le hi.1
    have hb : b ≤ 256 := by omega
    have hres : downI q (b : Int) = downQ q b := by unfold downI; rw [if_pos hi, Int.toNat_natCast]
    rw [hres]
    have hcore := hid (down_core q b)
    have h2b : (2 : Nat) ^ b ≠ 0 := Nat.ne_of_gt (Nat.pow_pos (by decide))
    have hlb := lim_pow2 hb
    have hNl : lim (q.num.natAbs * 2 ^ b) ≤ k + 9 := Nat.le_trans (lim_mul _ _) (Nat.add_le_add hq.1 hlb)
    have hdn : q.den ≠ 0 := q.den_nz
    clear hres hi
    have C1 := hid (fun (w' : World) (ao : Option Addr) (n cap : Nat) (hs : Sl w' ao n cap (u32s (dig q.num.natAbs))) (hn : n ≤ 1099511627776) => leftD q.num.natAbs (b : Int) b rfl (by omega) hs hn)
    have C2 := hid (fun (w' : World) (ao : Option Addr) (n cap : Nat) (hs : Sl w' ao n cap (u32s (dig 1))) (hn : n ≤ 1099511627776) => (by have := leftD 1 (b : Int) b rfl (by omega) hs hn; rwa [Nat.one_mul] at this : Calls Tryz.prog 50 #[.slice ao n cap, .int .i64 (b : Int)] w' (NumOut w' (2 ^ b))))
    generalize (2 : Nat) ^ b = P at *
    go_enter Tryz.func14, Tryz.ntmps14
    go_wp2_with fail
    refine (of_any q _ _ (h.next hG0.bel)).mono ?_; rintro e w1 ⟨f1, rfl, F1, hb1⟩
    obtain ⟨xo, xn, xc, yo, yn, yc, rfl⟩ := F1.shape
    have hG1 := hG0.next hb1
    have F2 := F1.new (.cells #[.bool (decide (q.num < 0)), .slice xo xn xc, .slice yo yn yc] 52)
    have hH : Bk w w1.heap.size (.bool (decide (q.num < 0))) (.slice xo xn xc) (.slice yo yn yc) (w1.alloc (.cells #[.bool (decide (q.num < 0)), .slice xo xn xc, .slice yo yn yc] 52)) := Bk.start hG1.bel rfl _ _ _ _
    have hG2 := hG1.new (.cells #[.bool (decide (q.num < 0)), .slice xo xn xc, .slice yo yn yc] 52)
    have hne : w.heap.size + 1 ≠ w1.heap.size := Nat.ne_of_lt hG1.lt
    clear hG0 F1
    go_wp2_with fail
    generalize w1.alloc (.cells #[.bool (decide (q.num < 0)), .slice xo xn xc, .slice yo yn yc] 52) = W at *
    generalize w1.heap.size = g at *
    obtain ⟨sX, sY, zX, zY, _⟩ := F2.parts
    have hxn : xn ≤ 4294967296 := by rw [← sX.lenU]; exact Nat.le_trans hq.1 hk
    have hyn : yn ≤ 4294967296 := by rw [← sY.lenU]; exact Nat.le_trans hq.2 hk
    have hd := (Below.refl W.heap.size W).drew
    obtain ⟨N, hN⟩ : ∃ N, q.num.natAbs * P = N := ⟨_, rfl⟩
    rw [hN] at hcore C1 hNl
    obtain ⟨D, hD⟩ : ∃ D, q.den = D := ⟨_, rfl⟩
    rw [hD] at hcore sY hdn
    generalize decide (q.num < 0) = neg at *
    clear hN hD F2 h hq hb1
    have hS0 : C3 g (.bool neg) (.slice xo xn xc) (.slice yo yn yc) W.drew := hH.c3.next hd
    have hK : ∀ w' w'', C3 g (.bool neg) (.slice xo xn xc) (.slice yo yn yc) w' → Below w'.heap.size w' w'' → C3 g (.bool neg) (.slice xo xn xc) (.slice yo yn yc) w'' := fun w' w'' h hb => h.next hb
    have hSt : ∀ w' (x y z : Value), C3 g (.bool neg) (.slice xo xn xc) (.slice yo yn yc) w' → C3 g (.bool neg) (.slice xo xn xc) (.slice yo yn yc) (((w'.setCell ⟨w.heap.size + 1, 0, none⟩ x).setCell ⟨w.heap.size + 1, 1, none⟩ y).setCell ⟨w.heap.size + 1, 2, none⟩ z) := fun w' x y z h => h.set3 hne _ _ _
    go_region_held3 (fun w' => C3 g (.bool neg) (.slice xo xn xc) (.slice yo yn yc) w')
      (repeat (first | with_reducible assumption | with_reducible refine hK _ _ ?_ hb2 | with_reducible refine hK _ _ ?_ hb3))
      (first
        | (go_at_call 50; refine (C1.out _ _ _ _ (sX.next hd) (by omega)).mono ?_; rintro e w2 ⟨lo, ln, lc, rfl, sL, zL, hb2, _⟩; have hln : ln ≤ 17179869184 := by rw [← sL.lenU]; exact Nat.le_trans hNl (by omega))
        | (go_at_call 51; refine (over_any N D hdn _ _ _ _ _ _ _ sL ((sY.next hd).next hb2) hln (by omega)).mono ?_; rintro e w3 ⟨qo, qn, qc, ro, rn, rc, rfl, sQ, sR, zQ, zR, hb3⟩))
    have hH3 := (hH.drew.next hb2).next hb3
    have hG3 := (hG2.drew.next hb2).next hb3
    have hlR := sR.lenU
    have hqn : qn ≤ 17179869184 := by rw [← sQ.lenU]; exact Nat.le_trans (lim_mono (Nat.div_le_self _ _)) (Nat.le_trans hNl (by omega))
    have hql : lim (N / D) ≤ 17179869183 := Nat.le_trans (lim_mono (Nat.div_le_self _ _)) (Nat.le_trans hNl (by omega))
    obtain ⟨e0, e1, e2⟩ := hH3.c3
    clear hS0 hH hG2
    have hdr : D ≠ 0 := hdn
    cases neg with
    | false =>
      have hM : floorN false N D = N / D := by unfold floorN; rw [if_neg (by simp)]
      rw [hM] at hcore
      have hMl : lim (N / D) ≤ 17179869184 := by omega
      clear hM hlR sR
      generalize N / D = M at *
      have hdw := (Below.refl w3.heap.size w3).drew
      have hS1 : C3 g (.bool false) (.slice xo xn xc) (.slice yo yn yc) w3.drew := hH3.c3.next hdw
      go_wp2_with fail
      go_region_held3 (fun w' => C3 g (.bool false) (.slice xo xn xc) (.slice yo yn yc) w')
        (repeat (first | with_reducible assumption | with_reducible exact hSt _ _ _ _ (by assumption) | with_reducible refine hK _ _ ?_ hb5 | with_reducible refine hK _ _ ?_ hb6 | with_reducible refine hK _ _ ?_ hb7))
        (first
          | (go_at_call 53; refine (one_any _).mono ?_; rintro e w5 ⟨rfl, s1, hb5⟩)
          | (go_at_call 50; refine (C2.out _ _ _ _ s1 (by omega)).mono ?_; rintro e w6 ⟨po, pn, pc, rfl, sP, zP, hb6, _⟩)
          | (go_at_call 54; refine (rat_any false M P _ _ ⟨qo, po, qn, qc, pn, pc, rfl, ((sQ.next hdw).next hb5).next hb6, sP, zQ, zP, h2b⟩ hMl (by omega)).mono ?_; rintro e w7 ⟨v7, rfl, C7, hb7⟩; obtain ⟨rb, ro', rn', rc', so', sn', sc', rfl⟩ := C7.shape; have hG7 := (((hG3.drew).next hb5).next hb6).next hb7; obtain ⟨d0, d1, d2⟩ := hG7.c3; have f0 := hG7.free 0; have f1 := hG7.free 1; have f2 := hG7.free 2))
      go_wp2_with fail
      refine bodyPost_ret (v := .agg #[.bool rb, .slice ro' rn' rc', .slice so' sn' sc']) (by simp [results, Tryz.results14, go_sem, d0, d1, d2]) rfl ?_
      rw [hcore.out] at C7
      exact hG7.res.rc C7
    | true =>
      by_cases hr0 : N % D = 0
      · have hM : floorN true N D = N / D := by unfold floorN; rw [if_neg (by simp [hr0])]
        rw [hM] at hcore
        have hMl : lim (N / D) ≤ 17179869184 := by omega
        rw [hr0, dig_zero] at hlR
        obtain rfl : rn = 0 := by simpa using hlR.symm
        clear hM hlR sR hr0
        generalize N / D = M at *
        have hdw := (Below.refl w3.heap.size w3).drew
        have hS1 : C3 g (.bool true) (.slice xo xn xc) (.slice yo yn yc) w3.drew := hH3.c3.next hdw
        go_wp2_with fail
        go_region_held3 (fun w' => C3 g (.bool true) (.slice xo xn xc) (.slice yo yn yc) w')
          (repeat (first | with_reducible assumption | with_reducible exact hSt _ _ _ _ (by assumption) | with_reducible refine hK _ _ ?_ hb5 | with_reducible refine hK _ _ ?_ hb6 | with_reducible refine hK _ _ ?_ hb7))
          (first
            | (go_at_call 53; refine (one_any _).mono ?_; rintro e w5 ⟨rfl, s1, hb5⟩)
            | (go_at_call 50; refine (C2.out _ _ _ _ s1 (by omega)).mono ?_; rintro e w6 ⟨po, pn, pc, rfl, sP, zP, hb6, _⟩)
            | (go_at_call 54; refine (rat_any true M P _ _ ⟨qo, po, qn, qc, pn, pc, rfl, ((sQ.next hdw).next hb5).next hb6, sP, zQ, zP, h2b⟩ hMl (by omega)).mono ?_; rintro e w7 ⟨v7, rfl, C7, hb7⟩; obtain ⟨rb, ro', rn', rc', so', sn', sc', rfl⟩ := C7.shape; have hG7 := (((hG3.drew).next hb5).next hb6).next hb7; obtain ⟨d0, d1, d2⟩ := hG7.c3; have f0 := hG7.free 0; have f1 := hG7.free 1; have f2 := hG7.free 2))
        go_wp2_with fail
        refine bodyPost_ret (v := .agg #[.bool rb, .slice ro' rn' rc', .slice so' sn' sc']) (by simp [results, Tryz.results14, go_sem, d0, d1, d2]) rfl ?_
        rw [hcore.out] at C7
        exact hG7.res.rc C7
      · have hM : floorN true N D = N / D + 1 := by unfold floorN; rw [if_pos ⟨rfl, hr0⟩]
        rw [hM] at hcore
        have hrn : 1 ≤ rn := by
          cases rn with
          | zero => exact absurd (List.eq_nil_of_length_eq_zero hlR) (fun h => hr0 (dig_nil.1 h))
          | succ n => omega
        have hMl : lim (N / D + 1) ≤ 17179869184 := Nat.le_trans (lim_add hql (by rw [lim_one]; omega)) (by omega)
        clear hM hlR sR hr0
        go_wp2_with fail
        refine (one_any _).mono ?_; rintro e w8 ⟨rfl, s8, hb8⟩
        go_wp2_with fail
        refine (plusD (N / D) 1 (sQ.next hb8) s8 (by omega) (by omega)).mono ?_; rintro e w9 ⟨tq, tn, tc, rfl, sT, zT, hb9, _⟩
        have hH9 := (hH3.next hb8).next hb9
        have hG9 := (hG3.next hb8).next hb9
        obtain ⟨i0, i1, i2⟩ := hH9.c3
        generalize N / D + 1 = M at *
        have hdw := (Below.refl w9.heap.size w9).drew
        have hS1 : C3 g (.bool true) (.slice xo xn xc) (.slice yo yn yc) w9.drew := hH9.c3.next hdw
        go_wp2_with fail
        go_region_held3 (fun w' => C3 g (.bool true) (.slice xo xn xc) (.slice yo yn yc) w')
          (repeat (first | with_reducible assumption | with_reducible exact hSt _ _ _ _ (by assumption) | with_reducible refine hK _ _ ?_ hb5 | with_reducible refine hK _ _ ?_ hb6 | with_reducible refine hK _ _ ?_ hb7))
          (first
            | (go_at_call 53; refine (one_any _).mono ?_; rintro e w5 ⟨rfl, s1, hb5⟩)
            | (go_at_call 50; refine (C2.out _ _ _ _ s1 (by omega)).mono ?_; rintro e w6 ⟨po, pn, pc, rfl, sP, zP, hb6, _⟩)
            | (go_at_call 54; refine (rat_any true M P _ _ ⟨tq, po, tn, tc, pn, pc, rfl, ((sT.next hdw).next hb5).next hb6, sP, zT, zP, h2b⟩ hMl (by omega)).mono ?_; rintro e w7 ⟨v7, rfl, C7, hb7⟩; obtain ⟨rb, ro', rn', rc', so', sn', sc', rfl⟩ := C7.shape; have hG7 := (((hG9.drew).next hb5).next hb6).next hb7; obtain ⟨d0, d1, d2⟩ := hG7.c3; have f0 := hG7.free 0; have f1 := hG7.free 1; have f2 := hG7.free 2))
        go_wp2_with fail
        refine bodyPost_ret (v := .agg #[.bool rb, .slice ro' rn' rc', .slice so' sn' sc']) (by simp [results, Tryz.results14, go_sem, d0, d1, d2]) rfl ?_
        rw [hcore.out] at C7
        exact hG7.res.rc C7
  · have hres : downI q i = 0 := by unfold downI; rw [if_neg hi]
    rw [hres]
    clear hres
    by_cases h1 : i < 0
    · have c1 : decide (i < 0) = true := decide_eq_true h1
      go_enter Tryz.func14, Tryz.ntmps14
      go_wp2_with fail
      refine bodyPost_ret (v := .agg #[.bool false, .slice none 0 0, .slice none 0 0]) (by simp [results, Tryz.results14, go_sem]) rfl ?_
      exact ⟨_, rfl, ratC_zero _, hG0.bel⟩
    · have c1 : decide (i < 0) = false := decide_eq_false h1
      have c2 : decide (256 < i) = true := decide_eq_true (by omega)
      go_enter Tryz.func14, Tryz.ntmps14
      go_wp2_with fail
      refine bodyPost_ret (v := .agg #[.bool false, .slice none 0 0, .slice none 0 0]) (by simp [results, Tryz.results14, go_sem]) rfl ?_
      exact ⟨_, rfl, ratC_zero _, hG0.bel⟩

end Go.Proofs.YtjppjhjfogjhaaaGreatDoor

/-
  The contracts of the reference's floor, Two and Down. No condition but sizes.
-/
namespace Go.Proofs.YtjppjhjfogjhaaaGreatDoor
open Go.RowKit
set_option linter.unusedSimpArgs false
set_option linter.unusedVariables false

theorem floor_core (q : Rat) : q.floor = sgn (decide (q.num < 0)) (floorN (decide (q.num < 0)) q.num.natAbs q.den) := by
  rw [← floor_frac _ _ _ (Nat.pos_of_ne_zero q.den_nz), sgn_num, Rat.mkRat_self]

theorem ratC_int {w : World} {neg : Bool} {M : Nat} {s : Bool} (hs : s = (neg && decide (0 < M))) {ao : Option Addr} {n cap : Nat} (h : Sl w ao n cap (u32s (dig M))) (hz : ao = none → cap = 0) : RatC w (.agg #[.bool s, .slice ao n cap, .slice none 0 0]) ((sgn neg M : Int) : Rat) := by
  have hn : ((sgn neg M : Int) : Rat).num = sgn neg M := rfl
  refine ⟨ao, none, n, cap, 0, 0, ?_, ?_, ?_, hz, fun _ => rfl⟩
  · rw [hn, hs]
    have : (neg && decide (0 < M)) = decide (sgn neg M < 0) := by
      cases neg with
      | false => simp [sgn]
      | true => simp [sgn]
    rw [this]
  · rw [hn, sgn_abs]; exact h
  · unfold denL
    rw [if_pos (show ((sgn neg M : Int) : Rat).den = 1 from rfl)]
    exact Sl.nil _

set_option maxHeartbeats 4000000 in
theorem rfloor_any (q : Rat) (v : Value) (w : World) (h : RatV w v q) (k : Nat) (hq : Fit k q) (hk : k ≤ 8589934592) :
    Calls Tryz.prog 56 #[v] w (RatOut w ((q.floor : Int) : Rat)) := by
  obtain ⟨s, ao, n, cap, bo, m, cap', rfl⟩ := h.shape
  have hB := (Bk.start (Below.refl w.heap.size w) rfl (.bool s) (.slice ao n cap) (.slice bo m cap') 24).new (.cells #[.bool false, .slice none 0 0, .slice none 0 0] 24)
  have hG : Bk w (w.heap.size + 1) (.bool false) (.slice none 0 0) (.slice none 0 0) ((w.alloc (.cells #[.bool s, .slice ao n cap, .slice bo m cap'] 24)).alloc (.cells #[.bool false, .slice none 0 0, .slice none 0 0] 24)) := Bk.start (below_alloc _) (by simp) _ _ _ _
  have hcore := hid (floor_core q)
  go_enter Tryz.func56, Tryz.ntmps56
  go_wp2_with fail
  refine (rTake_any q _ _ (h.next hB.bel)).mono ?_; rintro e w1 ⟨v1, rfl, C1, hb1⟩
  obtain ⟨rb, ro, rn, rc, so, sn, sc, rfl⟩ := C1.shape
  have hB1 := hB.next hb1
  have hG1 := hG.next hb1
  have c1 := C1.putOther hB1.res (.bool rb) (.slice ro rn rc) (.slice so sn sc)
  have b1 := hB1.put (.bool rb) (.slice ro rn rc) (.slice so sn sc)
  have g1 := hG1.other (by omega) hB1.ge (.bool rb) (.slice ro rn rc) (.slice so sn sc)
  obtain ⟨d0, d1, d2⟩ := hB1.c3
  have f0 := hB1.free 0
  have f1 := hB1.free 1
  have f2 := hB1.free 2
  clear hB hG hG1
  go_wp2_with fail
  clear d0 d1 d2 f0 f1 f2 hB1 C1
  generalize ((w1.setCell ⟨w.heap.size, 0, none⟩ (.bool rb)).setCell ⟨w.heap.size, 1, none⟩ (.slice ro rn rc)).setCell ⟨w.heap.size, 2, none⟩ (.slice so sn sc) = W at *
  obtain ⟨hneg, sX, _, zX, _⟩ := c1.parts
  have Hneg := hid hneg
  clear hneg
  have hxn : rn ≤ 8589934592 := by rw [← sX.lenU]; exact Nat.le_trans hq.1 hk
  have hdl : lim q.den ≤ 17179869184 := Nat.le_trans hq.2 (by omega)
  have hd := (Below.refl W.heap.size W).drew
  have hS0 : C3 w.heap.size (.bool rb) (.slice ro rn rc) (.slice so sn sc) W.drew := b1.c3.next hd
  have hK : ∀ w' w'', C3 w.heap.size (.bool rb) (.slice ro rn rc) (.slice so sn sc) w' → Below w'.heap.size w' w'' → C3 w.heap.size (.bool rb) (.slice ro rn rc) (.slice so sn sc) w'' := fun w' w'' h hb => h.next hb
  go_region_held3 (fun w' => C3 w.heap.size (.bool rb) (.slice ro rn rc) (.slice so sn sc) w')
    (repeat (first | with_reducible assumption | with_reducible refine hK _ _ ?_ hb2 | with_reducible refine hK _ _ ?_ hb3))
    (first
      | (go_at_call 74; refine (den_any q _ _ (c1.next hd)).mono ?_; rintro e w2 ⟨eo, en, ec, rfl, sE, zE, hb2⟩; have hen : en ≤ 17179869184 := by rw [← sE.lenU]; exact hdl)
      | (go_at_call 90; refine (divide_any q.num.natAbs q.den q.den_nz _ _ _ _ _ _ _ ((sX.next hd).next hb2) sE (by omega) hen).mono ?_; rintro e w3 ⟨qo, qn, qc, xo, xn, xc, rfl, sQ, sR, zQ, zR, hb3⟩))
  have hH3 := (b1.drew.next hb2).next hb3
  have hG3 := (g1.drew.next hb2).next hb3
  have hlQ := lim_mono (Nat.div_le_self q.num.natAbs q.den)
  have hql : lim (q.num.natAbs / q.den) ≤ 8589934592 := Nat.le_trans hlQ (Nat.le_trans hq.1 hk)
  have hqn : qn ≤ 8589934592 := by rw [← sQ.lenU]; exact hql
  have hlR := sR.lenU
  have hlq := sQ.lenU
  rw [← Hneg.out] at hcore
  obtain ⟨e0, e1, e2⟩ := hH3.c3
  obtain ⟨d0, d1, d2⟩ := hG3.c3
  have f0 := hG3.free 0
  have f1 := hG3.free 1
  have f2 := hG3.free 2
  clear hS0 hK sX hlQ b1 g1 c1 Hneg h hq
  cases rb with
  | false =>
    have hM : floorN false q.num.natAbs q.den = q.num.natAbs / q.den := by unfold floorN; rw [if_neg (by simp)]
    rw [hM] at hcore
    clear hM hlR sR hlq
    go_wp2_with fail
    refine bodyPost_ret (v := .agg #[.bool false, .slice qo qn qc, .slice none 0 0]) (by simp [results, Tryz.results56, go_sem, d0, d1, d2]) rfl ?_
    rw [hcore.out]
    exact hG3.res.rc (ratC_int (neg := false) (by simp) sQ zQ)
  | true =>
    by_cases hr0 : q.num.natAbs % q.den = 0
    · have hM : floorN true q.num.natAbs q.den = q.num.natAbs / q.den := by unfold floorN; rw [if_neg (by simp [hr0])]
      rw [hM] at hcore
      rw [hr0, dig_zero] at hlR
      obtain rfl : xn = 0 := by simpa using hlR.symm
      clear hM hlR sR hr0
      by_cases hq0 : 0 < qn
      · have hs : true = (true && decide (0 < q.num.natAbs / q.den)) := by
          have : q.num.natAbs / q.den ≠ 0 := fun h => by rw [h, dig_zero] at hlq; simp at hlq; omega
          simp only [Bool.true_and]; exact (decide_eq_true (Nat.pos_of_ne_zero this)).symm
        have Hs := hid hs
        clear hlq hs
        go_wp2_with fail
        refine bodyPost_ret (v := .agg #[.bool true, .slice qo qn qc, .slice none 0 0]) (by simp [results, Tryz.results56, go_sem, d0, d1, d2]) rfl ?_
        rw [hcore.out]
        exact hG3.res.rc (ratC_int Hs.out sQ zQ)
      · obtain rfl : qn = 0 := by omega
        have hs : false = (true && decide (0 < q.num.natAbs / q.den)) := by
          have : q.num.natAbs / q.den = 0 := dig_nil.1 (List.eq_nil_of_length_eq_zero hlq)
          rw [this]; rfl
        have Hs := hid hs
        clear hlq hs
        go_wp2_with fail
        refine bodyPost_ret (v := .agg #[.bool false, .slice qo 0 qc, .slice none 0 0]) (by simp [results, Tryz.results56, go_sem, d0, d1, d2]) rfl ?_
        rw [hcore.out]
        exact hG3.res.rc (ratC_int Hs.out sQ zQ)
    · have hM : floorN true q.num.natAbs q.den = q.num.natAbs / q.den + 1 := by unfold floorN; rw [if_pos ⟨rfl, hr0⟩]
      rw [hM] at hcore
      have hxn : 1 ≤ xn := by
        cases xn with
        | zero => exact absurd (List.eq_nil_of_length_eq_zero hlR) (fun h => hr0 (dig_nil.1 h))
        | succ n => omega
      clear hM hlR sR hr0 hlq
      generalize q.num.natAbs / q.den = M at *
      have s1 := (one_limb (w := w3) 1 (by decide)).1
      have h1 : [1] = dig 1 := by rw [dig_pos (by decide), dig_zero]
      rw [h1] at s1
      clear h1
      go_wp2_with fail
      refine (rplusD M 1 (sQ.next (below_alloc _)) s1 (by omega) (by omega)).mono ?_; rintro e w9 ⟨tq, tn, tc, rfl, sT, zT, hb9, _⟩
      have hH9 := (hH3.new _).next hb9
      have hG9 := (hG3.new _).next hb9
      clear e0 e1 e2 d0 d1 d2 f0 f1 f2 s1
      obtain ⟨e0, e1, e2⟩ := hH9.c3
      obtain ⟨d0, d1, d2⟩ := hG9.c3
      have f0 := hG9.free 0
      have f1 := hG9.free 1
      have f2 := hG9.free 2
      have hlt := sT.lenU
      have htn : 0 < tn := by
        cases tn with
        | zero => exact absurd (dig_nil.1 (List.eq_nil_of_length_eq_zero hlt)) (by omega)
        | succ n => omega
      clear hlt
      have hs : Hid (true = (true && decide (0 < M + 1))) := hid (by simp)
      go_wp2_with fail
      refine bodyPost_ret (v := .agg #[.bool true, .slice tq tn tc, .slice none 0 0]) (by simp [results, Tryz.results56, go_sem, d0, d1, d2]) rfl ?_
      rw [hcore.out]
      exact hG9.res.rc (ratC_int hs.out sT zT)

end Go.Proofs.YtjppjhjfogjhaaaGreatDoor

/-
  The contracts of the reference's Two and Down. No condition but sizes.
-/
namespace Go.Proofs.YtjppjhjfogjhaaaGreatDoor
open Go.RowKit
set_option linter.unusedSimpArgs false
set_option linter.unusedVariables false

theorem val_zeros (k x : Nat) : val (List.replicate k 0 ++ [x]) = 4294967296 ^ k * x := by
  induction k with
  | zero => simp [val]
  | succ k ih =>
    rw [List.replicate_succ, List.cons_append, val, ih, Nat.pow_succ]
    rw [Nat.zero_add, ← Nat.mul_assoc, Nat.mul_comm 4294967296]

theorem dig_pow2 {b k s : Nat} (h : b = 32 * k + s) (hs : s < 32) : List.replicate k 0 ++ [2 ^ s] = dig (2 ^ b) := by
  have hp : 2 ^ s < 4294967296 := by
    calc 2 ^ s ≤ 2 ^ 31 := Nat.pow_le_pow_right (by decide) (by omega)
      _ < 4294967296 := by decide
  have hne : 2 ^ s ≠ 0 := Nat.ne_of_gt (Nat.pow_pos (by decide))
  have hl : Lim (List.replicate k 0 ++ [2 ^ s]) := by
    intro x hx
    rw [List.mem_append] at hx
    rcases hx with hx | hx
    · rw [(List.mem_replicate.1 hx).2]; decide
    · simp at hx; rw [hx]; exact hp
  have := dig_val hl (strip_snoc hne)
  rw [← this, val_zeros, h, Nat.pow_add, Nat.pow_mul]

theorem ratC_pow2 {w : World} {M : Nat} {ao : Option Addr} {n cap : Nat} (h : Sl w ao n cap (u32s (dig M))) (hz : ao = none → cap = 0) : RatC w (.agg #[.bool false, .slice ao n cap, .slice none 0 0]) ((M : Nat) : Rat) := by
  have := ratC_int (neg := false) (M := M) (s := false) (by simp) h hz
  exact this

set_option maxHeartbeats 1000000 in
theorem rTwo_any (I : Int) (b : Nat) (hI : I = (b : Int)) (hb : b ≤ 256) (w : World) : Calls Tryz.prog 34 #[.int .i64 I] w (RatOut w ((2 ^ b : Nat) : Rat)) := by
  subst hI
  obtain ⟨k, hk⟩ : ∃ k : Nat, (b : Int) / 32 = k := ⟨b / 32, rfl⟩
  obtain ⟨s, hs⟩ : ∃ s : Nat, (b : Int) % 32 = s := ⟨b % 32, rfl⟩
  have hs32 : s < 32 := by omega
  have hk8 : k ≤ 8 := by omega
  have hdig := hid (dig_pow2 (b := b) (k := k) (s := s) (by omega) hs32)
  obtain ⟨x, hx⟩ : ∃ x : Nat, (2 : Int) ^ s % 4294967296 = x ∧ x = 2 ^ s := by
    have hp : 2 ^ s < 4294967296 := by
      calc 2 ^ s ≤ 2 ^ 31 := Nat.pow_le_pow_right (by decide) (by omega)
        _ < 4294967296 := by decide
    refine ⟨2 ^ s, ?_, rfl⟩
    have e : (2 : Int) ^ s = ((2 ^ s : Nat) : Int) := by rw [Int.natCast_pow]; rfl
    rw [e]
    generalize (2 : Nat) ^ s = z at *
    omega
  obtain ⟨hx1, hx2⟩ := hx
  rw [← hx2] at hdig
  clear hx2
  generalize (2 : Nat) ^ b = M at *
  have hG := Bk.start (Below.refl w.heap.size w) rfl (.bool false) (.slice none 0 0) (.slice none 0 0) 24
  go_enter Tryz.func34, Tryz.ntmps34
  go_wp2_with (at_make; go_loud (refine wp_make rfl (.tmp 6) (.tmp 6) 22 rfl 72 _ 4 Tryz.underlying22 Tryz.infoU32 rfl _ _ _ _ (k + 1) rfl rfl (by omega) (by omega) (by omega) (by omega) ?_))
  intro w1 hown _ hb1
  have hG1 := hG.next (w'' := w1) (by simpa using hb1)
  have hbel := hG1.bel
  obtain ⟨⟨u, hcell⟩, hfr⟩ := row_cell (o := List.replicate (k + 1) 0) (k := k) (by simpa [u32s] using hown) (by omega)
  have hst := row_store (o := List.replicate (k + 1) 0) (k := k) (by simpa [u32s] using hown) x
  have hset : (List.replicate (k + 1) 0).set k x = List.replicate k 0 ++ [x] := by
    rw [List.replicate_succ', List.set_append]; simp
  rw [hset, hdig.out] at hst
  obtain ⟨oo, oc, hv, osl⟩ := ownsSl hst
  injection hv with e1 e2 e3
  subst e1 e3
  clear hset hown hst
  clear hb1
  have hG2 := hG1.other0 (g := w.heap.size + 1) (by omega) (by omega) k (.int .u32 (x : Int))
  obtain ⟨d0, d1, d2⟩ := hG1.c3
  have f0 := hG1.free 0
  have f1 := hG1.free 1
  have f2 := hG1.free 2
  clear hG
  go_wp2_with fail
  refine bodyPost_ret (v := .agg #[.bool false, .slice (some ⟨w.heap.size + 1, 0, none⟩) (k + 1) (k + 1), .slice none 0 0]) (by simp [results, Tryz.results34, go_sem, d0, d1, d2]) rfl ?_
  exact hG2.res.rc (ratC_pow2 osl (fun h => by cases h))

theorem down_div (q : Rat) (b : Nat) : downQ q b = (((q * ((2 ^ b : Nat) : Rat)).floor : Int) : Rat) / ((2 ^ b : Nat) : Rat) := rfl

theorem fit_pow {b : Nat} (h : b ≤ 256) : Fit 9 ((2 ^ b : Nat) : Rat) := ⟨lim_pow2 h, by rw [show (((2 ^ b : Nat) : Rat)).den = 1 from rfl, lim_one]; omega⟩

theorem fit_floor {k : Nat} {q : Rat} (h : Fit k q) : Fit (k + 1) ((q.floor : Int) : Rat) := by
  refine fit_int ?_ (by omega)
  rw [floor_core, sgn_abs]
  exact Nat.le_trans (lim_mono (floorN_le _ _)) (lim_add h.1 (by rw [lim_one]; exact h.pos))

theorem pow_rat_ne (b : Nat) : ((2 ^ b : Nat) : Rat) ≠ 0 := by
  intro h
  have : (((2 ^ b : Nat) : Int) : Rat) = ((0 : Int) : Rat) := h
  have := Rat.intCast_inj.1 this
  have := Nat.pow_pos (n := b) (show 0 < 2 by decide)
  omega

set_option maxHeartbeats 4000000 in
theorem rDown_any (q : Rat) (i : Int) (v : Value) (w : World) (h : RatV w v q) (k : Nat) (hq : Fit k q) (hk : k ≤ 2147483648) :
    Calls Tryz.prog 15 #[v, .int .i64 i] w (RatOut w (downI q i)) := by
  obtain ⟨s, ao, n, cap, bo, m, cap', rfl⟩ := h.shape
  have hB : Bk w w.heap.size (.bool s) (.slice ao n cap) (.slice bo m cap') ((w.alloc (.cells #[.bool s, .slice ao n cap, .slice bo m cap'] 24)).alloc (.cells #[.bool false, .slice none 0 0, .slice none 0 0] 24)) := (Bk.start (Below.refl _ _) rfl _ _ _ _).new _
  have hG0 : Bk w (w.heap.size + 1) (.bool false) (.slice none 0 0) (.slice none 0 0) ((w.alloc (.cells #[.bool s, .slice ao n cap, .slice bo m cap'] 24)).alloc (.cells #[.bool false, .slice none 0 0, .slice none 0 0] 24)) := Bk.start (below_alloc _) (by simp) _ _ _ _
  by_cases hi : 0 ≤ i ∧ i ≤ 256
  · obtain ⟨b, rfl⟩ := Int.eq_ofNat_of_zero_le hi.1
    have hb : b ≤ 256 := by omega
    have hres : downI q (b : Int) = downQ q b := by unfold downI; rw [if_pos hi, Int.toNat_natCast]
    rw [hres, down_div]
    have hP : Fit 9 ((2 ^ b : Nat) : Rat) := fit_pow hb
    have hP0 := pow_rat_ne b
    have hT := hid (fun w' => rTwo_any (b : Int) b rfl hb w')
    clear hres hi
    generalize ((2 ^ b : Nat) : Rat) = P at *
    have hm := fit_mul hq hP
    have hf := fit_floor hm
    go_enter Tryz.func15, Tryz.ntmps15
    go_wp2_with fail
    generalize (w.alloc (.cells #[.bool s, .slice ao n cap, .slice bo m cap'] 24)).alloc (.cells #[.bool false, .slice none 0 0, .slice none 0 0] 24) = W at *
    have hd := (Below.refl W.heap.size W).drew
    have hS0 : C3 w.heap.size (.bool s) (.slice ao n cap) (.slice bo m cap') W.drew := hB.c3.next hd
    have hK : ∀ w' w'', C3 w.heap.size (.bool s) (.slice ao n cap) (.slice bo m cap') w' → Below w'.heap.size w' w'' → C3 w.heap.size (.bool s) (.slice ao n cap) (.slice bo m cap') w'' := fun w' w'' h hb => h.next hb
    have hSt : ∀ w' (x y z : Value), C3 w.heap.size (.bool s) (.slice ao n cap) (.slice bo m cap') w' → C3 w.heap.size (.bool s) (.slice ao n cap) (.slice bo m cap') (((w'.setCell ⟨w.heap.size + 1, 0, none⟩ x).setCell ⟨w.heap.size + 1, 1, none⟩ y).setCell ⟨w.heap.size + 1, 2, none⟩ z) := fun w' x y z h => h.set3 (by omega) _ _ _
    have tok1 : True := trivial
    go_region_held3 (fun w' => C3 w.heap.size (.bool s) (.slice ao n cap) (.slice bo m cap') w')
      (repeat (first | with_reducible assumption | with_reducible exact hSt _ _ _ _ (by assumption) | with_reducible refine hK _ _ ?_ hb1 | with_reducible refine hK _ _ ?_ hb2 | with_reducible refine hK _ _ ?_ hb3 | with_reducible refine hK _ _ ?_ hb4 | with_reducible refine hK _ _ ?_ hb5))
      (first
        | (go_at_call 34; have tok2 := tok1; refine (hT.out _).mono ?_; rintro e w1 ⟨v1, rfl, C1, hb1⟩; clear tok1)
        | (go_at_call 34; refine (hT.out _).mono ?_; rintro e w4 ⟨v4, rfl, C4, hb4⟩)
        | (go_at_call 32; refine (rMul_any q P _ _ _ (h.next (below_chain hB.bel.drew hb1)) (C1.toV hP (by omega)) (k + 9) (hq.mono (by omega)) (hP.mono (by omega)) (by omega)).mono ?_; rintro e w2 ⟨v2, rfl, C2, hb2⟩)
        | (go_at_call 56; refine (rfloor_any _ _ _ (C2.toV hm (by omega)) (k + 9) hm (by omega)).mono ?_; rintro e w3 ⟨v3, rfl, C3', hb3⟩)
        | (go_at_call 55; refine (rQuo_any _ P hP0 _ _ _ ((C3'.next hb4).toV hf (by omega)) (C4.toV hP (by omega)) (k + 10) hf (hP.mono (by omega)) (by omega)).mono ?_; rintro e w5 ⟨v5, rfl, C5, hb5⟩; obtain ⟨rb, ro, rn, rc, so, sn, sc, rfl⟩ := C5.shape; have hG5 := ((((hG0.drew.next hb1).next hb2).next hb3).next hb4).next hb5; obtain ⟨d0, d1, d2⟩ := hG5.c3; have f0 := hG5.free 0; have f1 := hG5.free 1; have f2 := hG5.free 2))
    go_wp2_with fail
    refine bodyPost_ret (v := .agg #[.bool rb, .slice ro rn rc, .slice so sn sc]) (by simp [results, Tryz.results15, go_sem, d0, d1, d2]) rfl ?_
    exact hG5.res.rc C5
  · have hres : downI q i = 0 := by unfold downI; rw [if_neg hi]
    rw [hres]
    clear hres
    by_cases h1 : i < 0
    · have c1 : decide (i < 0) = true := decide_eq_true h1
      go_enter Tryz.func15, Tryz.ntmps15
      go_wp2_with fail
      refine bodyPost_ret (v := .agg #[.bool false, .slice none 0 0, .slice none 0 0]) (by simp [results, Tryz.results15, go_sem]) rfl ?_
      exact ⟨_, rfl, ratC_zero _, hG0.bel⟩
    · have c1 : decide (i < 0) = false := decide_eq_false h1
      have c2 : decide (256 < i) = true := decide_eq_true (by omega)
      go_enter Tryz.func15, Tryz.ntmps15
      go_wp2_with fail
      refine bodyPost_ret (v := .agg #[.bool false, .slice none 0 0, .slice none 0 0]) (by simp [results, Tryz.results15, go_sem]) rfl ?_
      exact ⟨_, rfl, ratC_zero _, hG0.bel⟩

end Go.Proofs.YtjppjhjfogjhaaaGreatDoor

/-
  The contract of rational.Whole. No condition but sizes.
-/
namespace Go.Proofs.YtjppjhjfogjhaaaGreatDoor
open Go.RowKit
set_option linter.unusedSimpArgs false
set_option linter.unusedVariables false

def wholeOk (q : Rat) : Bool := decide (q.den = 1 ∧ -9223372036854775808 ≤ q.num ∧ q.num ≤ 9223372036854775807)
def wholeV (q : Rat) : Int := if wholeOk q then q.num else 0

/-- An int and whether it is one. -/
def WholeR (w : World) (q : Rat) (e : Ending) (w' : World) : Prop := e = .returned (.tuple #[.int .i64 (wholeV q), .bool (wholeOk q)]) ∧ Below w.heap.size w w'

theorem whole_yes {w w' : World} {q : Rat} {V : Int} (hd : q.den = 1) (hv : V = q.num) (h1 : -9223372036854775808 ≤ V) (h2 : V ≤ 9223372036854775807) (hb : Below w.heap.size w w') : WholeR w q (.returned (.tuple #[.int .i64 V, .bool true])) w' := by
  have h : wholeOk q = true := by unfold wholeOk; rw [decide_eq_true_eq]; exact ⟨hd, by omega, by omega⟩
  refine ⟨?_, hb⟩
  unfold wholeV
  rw [h, hv]; rfl
theorem whole_no {w w' : World} {q : Rat} (h : ¬ (q.den = 1 ∧ -9223372036854775808 ≤ q.num ∧ q.num ≤ 9223372036854775807)) (hb : Below w.heap.size w w') : WholeR w q (.returned (.tuple #[.int .i64 0, .bool false])) w' := by
  have h : wholeOk q = false := by unfold wholeOk; exact decide_eq_false h
  refine ⟨?_, hb⟩
  unfold wholeV
  rw [h]; rfl

theorem wrapI (e : Int) (h1 : 9223372036854775808 ≤ e) (h2 : e < 18446744073709551616) : IntKind.i64.wrap e = e - 18446744073709551616 := by rw [IntKind.wrap_i64]; omega

theorem wrap64I (e : Int) (h1 : 9223372036854775808 ≤ e) (h2 : e < 18446744073709551616) : wrap64 e = e - 18446744073709551616 := by unfold wrap64; omega

theorem two_low (A : Nat) : A / 4294967296 ^ 1 % 4294967296 * 4294967296 + A / 4294967296 ^ 0 % 4294967296 = A % 18446744073709551616 := by
  rw [Nat.pow_one, Nat.pow_zero, Nat.div_one]; omega

set_option maxHeartbeats 4000000 in
theorem Whole_any (q : Rat) (v : Value) (w : World) (h : RatV w v q) :
    Calls Tryz.prog 24 #[v] w (WholeR w q) := by
  obtain ⟨s, ao, n, cap, bo, m, cap', rfl⟩ := h.shape
  obtain ⟨x0, hx0⟩ : ∃ x, q.num.natAbs / 4294967296 ^ 0 % 4294967296 = x := ⟨_, rfl⟩
  obtain ⟨x1, hx1⟩ : ∃ x, q.num.natAbs / 4294967296 ^ 1 % 4294967296 = x := ⟨_, rfl⟩
  obtain ⟨N, hN⟩ : ∃ N : Nat, (x1 : Int) * 4294967296 + x0 = N := ⟨x1 * 4294967296 + x0, by simp⟩
  have hx0l : x0 < 4294967296 := by rw [← hx0]; exact Nat.mod_lt _ (by decide)
  have hx1l : x1 < 4294967296 := by rw [← hx1]; exact Nat.mod_lt _ (by decide)
  have hNA : N = q.num.natAbs % 18446744073709551616 := by have := two_low q.num.natAbs; rw [hx0, hx1] at this; omega
  have hor := or_shl x1 x0 hx1l hx0l
  have hwr : IntKind.u64.wrap ((x1 : Int) * 4294967296) = (x1 : Int) * 4294967296 := by rw [wrapU]; omega
  have HX0 := hid hx0; have HX1 := hid hx1
  have HNA := hid hNA
  clear hx0 hx1 hNA
  go_enter Tryz.func24, Tryz.ntmps24
  go_wp2_with fail
  refine (of_any q _ _ (h.next (below_alloc _))).mono ?_; rintro e w1 ⟨f1, rfl, F1, hb1⟩
  obtain ⟨xo, xn, xc, yo, yn, yc, rfl⟩ := F1.shape
  have hbel1 := below_chain (below_alloc _) hb1
  have hH : Bk w w1.heap.size (.bool (decide (q.num < 0))) (.slice xo xn xc) (.slice yo yn yc) (w1.alloc (.cells #[.bool (decide (q.num < 0)), .slice xo xn xc, .slice yo yn yc] 52)) := Bk.start hbel1 rfl _ _ _ _
  have F2 := F1.new (.cells #[.bool (decide (q.num < 0)), .slice xo xn xc, .slice yo yn yc] 52)
  clear F1
  go_wp2_with fail
  generalize w1.alloc (.cells #[.bool (decide (q.num < 0)), .slice xo xn xc, .slice yo yn yc] 52) = W at *
  generalize w1.heap.size = g at *
  obtain ⟨sX, sY, zX, zY, _⟩ := F2.parts
  clear F2
  generalize hng : decide (q.num < 0) = neg at *
  have Hneg := hid hng
  clear hng
  have hd := (Below.refl W.heap.size W).drew
  have hK : ∀ w' w'', C3 g (.bool neg) (.slice xo xn xc) (.slice yo yn yc) w' → Below w'.heap.size w' w'' → C3 g (.bool neg) (.slice xo xn xc) (.slice yo yn yc) w'' := fun w' w'' h hb => h.next hb
  have hS0 : C3 g (.bool neg) (.slice xo xn xc) (.slice yo yn yc) W.drew := hH.c3.next hd
  have sX1 := sX.next hd
  go_region_held3 (fun w' => C3 g (.bool neg) (.slice xo xn xc) (.slice yo yn yc) w')
    (with_reducible assumption)
    (first
      | (go_at_call_of 70 (Value.int .i64 1); refine (atD q.num.natAbs 1 1 x1 rfl HX1.out sX1).mono ?_; rintro e w2 ⟨rfl, rfl⟩)
      | (go_at_call_of 70 (Value.int .i64 0); refine (atD q.num.natAbs 0 0 x0 rfl HX0.out sX1).mono ?_; rintro e w3 ⟨rfl, rfl⟩))
  clear hS0
  have hlX := sX.lenU
  have hH1 := hH.drew
  have sY1 := sY.next hd
  clear sX sX1 sY hH h hb1 hbel1
  generalize W.drew = W1 at *
  have hd1 := (Below.refl W1.heap.size W1).drew
  have hbel := hH1.bel
  obtain ⟨e0, e1, e2⟩ := hH1.c3
  have hn64 : N < 18446744073709551616 := by rw [HNA.out]; exact Nat.mod_lt _ (by decide)
  by_cases hlen : 2 < xn
  · have hlen' : decide ((2 : Int) < (xn : Int)) = true := decide_eq_true (by omega)
    have hno : Hid (¬ (q.den = 1 ∧ -9223372036854775808 ≤ q.num ∧ q.num ≤ 9223372036854775807)) := hid (by
      rintro ⟨_, a, b⟩
      have : lim q.num.natAbs ≤ 2 := lim_small2 (by omega)
      unfold lim at this; omega)
    clear hlX hK
    go_wp2_with fail
    go_quiet (fail)
    go_wp2_with fail
    go_ret2
    exact whole_no hno.out (hbel.trans (below_drewNs _))
  · have hlen' : decide ((2 : Int) < (xn : Int)) = false := decide_eq_false (by omega)
    have hNq : Hid (N = q.num.natAbs) := hid (by
      have h1 := dig_lt q.num.natAbs
      rw [hlX] at h1
      have h2 : (4294967296 : Nat) ^ xn ≤ 4294967296 ^ 2 := Nat.pow_le_pow_right (by decide) (by omega)
      have h3 : (4294967296 : Nat) ^ 2 = 18446744073709551616 := by decide
      rw [HNA.out]; exact Nat.mod_eq_of_lt (by omega))
    clear hlX
    have hS0 : C3 g (.bool neg) (.slice xo xn xc) (.slice yo yn yc) W1.drew := hH1.c3.next hd1
    by_cases hD : q.den = 1
    · have ho : ord q.den 1 = 0 := by rw [hD]; rfl
      have ho := hid ho
      go_wp2_with fail
      go_region_held3 (fun w' => C3 g (.bool neg) (.slice xo xn xc) (.slice yo yn yc) w')
        (repeat (first | with_reducible assumption | with_reducible refine hK _ _ ?_ hb2))
        (first
          | (go_at_call 53; refine (one_any _).mono ?_; rintro e w2 ⟨rfl, s2, hb2⟩)
          | (go_at_call 64; refine (cmp_eq q.den 1 0 ho.out ((sY1.next hd1).next hb2) s2).mono ?_; rintro e w3 ⟨rfl, rfl⟩))
      have hH2 := hH1.drew.next hb2
      have hbel2 := hH2.bel
      clear e0 e1 e2
      obtain ⟨e0, e1, e2⟩ := hH2.c3
      have HD := hid hD
      clear hS0 hK hD hlen hlen' hor hN hwr sY1 hd1 HX0 HX1 HNA
      cases neg with
      | true =>
        have hneg : q.num < 0 := of_decide_eq_true Hneg.out
        obtain ⟨M, hM⟩ : ∃ M : Nat, IntKind.u64.wrap (-(N : Int)) = M ∧ M = 18446744073709551616 - N ∧ 0 < N := by
          have := hNq.out
          refine ⟨18446744073709551616 - N, ?_, rfl, by omega⟩
          rw [wrapU]; omega
        obtain ⟨hM1, hM2, hN0⟩ := hM
        have hM0 : ((M : Int) == 0) = false := by simp; omega
        have hM0' : ((M : Int) != 0) = true := by simp; omega
        by_cases hbig : N ≤ 9223372036854775808
        · have hw := wrapI (M : Int) (by omega) (by omega)
          obtain ⟨V, hV⟩ : ∃ V : Int, (M : Int) - 18446744073709551616 = V ∧ V = q.num := ⟨_, rfl, by have := hNq.out; omega⟩
          rw [hV.1] at hw
          have hV4 : V ≤ 9223372036854775807 := by have := hV.2; clear hw; omega
          have hV2 := hid hV.2
          have hVn : V < 0 := by rw [hV.2]; exact hneg
          have hV3 : -9223372036854775808 ≤ V := by have := hV.2; have := hNq.out; clear hw; omega
          have hvd : decide (V < 0) = true := decide_eq_true hVn
          clear hV hM2 hNq hbig hneg
          go_wp2_with fail
          go_ret2
          exact whole_yes HD.out hV2.out hV3 hV4 hbel2
        · have hno : Hid (¬ (q.den = 1 ∧ -9223372036854775808 ≤ q.num ∧ q.num ≤ 9223372036854775807)) := hid (by rintro ⟨_, a, b⟩; have := hNq.out; omega)
          have hMl : M ≤ 9223372036854775807 := by omega
          have hvd : decide ((M : Int) < 0) = false := decide_eq_false (by omega)
          clear hM2 hNq hbig hneg
          go_wp2_with fail
          go_ret2
          exact whole_no hno.out hbel2
      | false =>
        have hneg : ¬ q.num < 0 := of_decide_eq_false Hneg.out
        have hq : Hid ((N : Int) = q.num) := hid (by have := hNq.out; omega)
        clear hneg hNq
        by_cases hbig : N ≤ 9223372036854775807
        · by_cases hN0 : N = 0
          · subst hN0
            go_wp2_with fail
            go_ret2
            exact whole_yes HD.out hq.out (by omega) (by omega) hbel2
          · have hM0 : ((N : Int) == 0) = false := by simp; omega
            have hM0' : ((N : Int) != 0) = true := by simp; omega
            have hvd : decide ((N : Int) < 0) = false := decide_eq_false (by omega)
            clear hN0
            go_wp2_with fail
            go_ret2
            exact whole_yes HD.out hq.out (by omega) (by omega) hbel2
        · have hno : Hid (¬ (q.den = 1 ∧ -9223372036854775808 ≤ q.num ∧ q.num ≤ 9223372036854775807)) := hid (by rintro ⟨_, a, b⟩; have := hq.out; omega)
          have hw := wrap64I (N : Int) (by omega) (by omega)
          obtain ⟨V, hV⟩ : ∃ V : Int, (N : Int) - 18446744073709551616 = V := ⟨_, rfl⟩
          have hVn : V < 0 := by clear hw; omega
          rw [hV] at hw
          have hvd : decide (V < 0) = true := decide_eq_true hVn
          have hM0 : ((N : Int) == 0) = false := by simp; omega
          have hM0' : ((N : Int) != 0) = true := by simp; omega
          clear hV hbig
          go_wp2_with fail
          go_ret2
          exact whole_no hno.out hbel2
    · have ho : ord q.den 1 = 1 := ord_one q.den_nz hD
      have hno : Hid (¬ (q.den = 1 ∧ -9223372036854775808 ≤ q.num ∧ q.num ≤ 9223372036854775807)) := hid (fun h => hD h.1)
      have ho := hid ho
      go_wp2_with fail
      go_region_held3 (fun w' => C3 g (.bool neg) (.slice xo xn xc) (.slice yo yn yc) w')
        (repeat (first | with_reducible assumption | with_reducible refine hK _ _ ?_ hb2))
        (first
          | (go_at_call 53; refine (one_any _).mono ?_; rintro e w2 ⟨rfl, s2, hb2⟩)
          | (go_at_call 64; refine (cmp_eq q.den 1 1 ho.out ((sY1.next hd1).next hb2) s2).mono ?_; rintro e w3 ⟨rfl, rfl⟩))
      go_wp2_with fail
      go_ret2
      exact whole_no hno.out (below_chain hbel.drew hb2)

end Go.Proofs.YtjppjhjfogjhaaaGreatDoor

/-
  The contract of the reference's Whole. No condition but sizes.
-/
namespace Go.Proofs.YtjppjhjfogjhaaaGreatDoor
open Go.RowKit
set_option linter.unusedSimpArgs false
set_option linter.unusedVariables false

theorem or_shl2 (r x : Nat) (hr : r < 4294967296) (hx : x < 4294967296) : bits .or .u64 (x : Int) ((r : Int) * 4294967296) = (r : Int) * 4294967296 + x := by
  have h1 := or_shl r x hr hx
  have e : ((r : Int) * 4294967296) = ((r * 4294967296 : Nat) : Int) := by simp
  rw [e] at h1 ⊢
  rw [u64_or_nat _ _ (by omega) (by omega)] at h1 ⊢
  rw [Nat.or_comm]; exact h1

set_option maxHeartbeats 4000000 in
theorem rWhole_any (q : Rat) (v : Value) (w : World) (h : RatV w v q) :
    Calls Tryz.prog 41 #[v] w (WholeR w q) := by
  obtain ⟨s, ao, n, cap, bo, m, cap', rfl⟩ := h.shape
  obtain ⟨x0, hx0⟩ : ∃ x, q.num.natAbs / 4294967296 ^ 0 % 4294967296 = x := ⟨_, rfl⟩
  obtain ⟨x1, hx1⟩ : ∃ x, q.num.natAbs / 4294967296 ^ 1 % 4294967296 = x := ⟨_, rfl⟩
  obtain ⟨N, hN⟩ : ∃ N : Nat, (x1 : Int) * 4294967296 + x0 = N := ⟨x1 * 4294967296 + x0, by simp⟩
  have hx0l : x0 < 4294967296 := by rw [← hx0]; exact Nat.mod_lt _ (by decide)
  have hx1l : x1 < 4294967296 := by rw [← hx1]; exact Nat.mod_lt _ (by decide)
  have hNA : N = q.num.natAbs % 18446744073709551616 := by have := two_low q.num.natAbs; rw [hx0, hx1] at this; omega
  have hor := or_shl2 x1 x0 hx1l hx0l
  have hwr : IntKind.u64.wrap ((x1 : Int) * 4294967296) = (x1 : Int) * 4294967296 := by rw [wrapU]; omega
  have HX0 := hid hx0; have HX1 := hid hx1
  have HNA := hid hNA
  clear hx0 hx1 hNA
  have hB := Bk.start (Below.refl w.heap.size w) rfl (.bool s) (.slice ao n cap) (.slice bo m cap') 24
  go_enter Tryz.func41, Tryz.ntmps41
  go_wp2_with fail
  refine (rTake_any q _ _ (h.next hB.bel)).mono ?_; rintro e w1 ⟨v1, rfl, C1, hb1⟩
  obtain ⟨rb, ro, rn, rc, so, sn, sc, rfl⟩ := C1.shape
  have hB1 := hB.next hb1
  have c1 := C1.putOther hB1.res (.bool rb) (.slice ro rn rc) (.slice so sn sc)
  have b1 := hB1.put (.bool rb) (.slice ro rn rc) (.slice so sn sc)
  obtain ⟨d0, d1, d2⟩ := hB1.c3
  have f0 := hB1.free 0
  have f1 := hB1.free 1
  have f2 := hB1.free 2
  obtain ⟨hneg, sX, sY, zX, _⟩ := c1.parts
  have Hneg := hid hneg
  have hlX := sX.lenU
  have hlY := sY.lenU
  have hbel := b1.bel
  have hn64 : N < 18446744073709551616 := by rw [HNA.out]; exact Nat.mod_lt _ (by decide)
  have hY0 : Hid (sn = 0 ↔ q.den = 1) := hid (by
    rw [← hlY]
    unfold denL
    split
    · simp; assumption
    · constructor
      · intro h; exact absurd (dig_nil.1 (List.eq_nil_of_length_eq_zero h)) q.den_nz
      · intro h; contradiction)
  have hX2 : Hid (rn ≤ 2 → N = q.num.natAbs) := hid (fun hlen => by
    have h1 := dig_lt q.num.natAbs
    rw [hlX] at h1
    have h2 : (4294967296 : Nat) ^ rn ≤ 4294967296 ^ 2 := Nat.pow_le_pow_right (by decide) hlen
    have h3 : (4294967296 : Nat) ^ 2 = 18446744073709551616 := by decide
    rw [HNA.out]; exact Nat.mod_eq_of_lt (by omega))
  have hX3 : Hid (2 < rn → ¬ (q.den = 1 ∧ -9223372036854775808 ≤ q.num ∧ q.num ≤ 9223372036854775807)) := hid (fun hlen => by
    rintro ⟨_, a, b⟩
    have : lim q.num.natAbs ≤ 2 := lim_small2 (by omega)
    unfold lim at this; omega)
  clear hneg hlX hlY hB C1 c1 sY
  by_cases hs : 0 < sn
  · have hno : Hid (¬ (q.den = 1 ∧ -9223372036854775808 ≤ q.num ∧ q.num ≤ 9223372036854775807)) := hid (fun h => by have := hY0.out.2 h.1; omega)
    go_wp2_with fail
    go_ret2
    exact whole_no hno.out hbel
  · obtain rfl : sn = 0 := by omega
    by_cases hlen : 2 < rn
    · have hno := hid (hX3.out hlen)
      go_wp2_with fail
      go_ret2
      exact whole_no hno.out hbel
    · have HD : Hid (q.den = 1) := hid (hY0.out.1 rfl)
      have hNq := hid (hX2.out (by omega))
      go_wp2_with fail
      clear d0 d1 d2 f0 f1 f2 hB1 hX2 hX3 hY0
      generalize ((w1.setCell ⟨w.heap.size, 0, none⟩ (.bool rb)).setCell ⟨w.heap.size, 1, none⟩ (.slice ro rn rc)).setCell ⟨w.heap.size, 2, none⟩ (.slice so 0 sc) = W at *
      have hd := (Below.refl W.heap.size W).drew
      have hS0 : C3 w.heap.size (.bool rb) (.slice ro rn rc) (.slice so 0 sc) W.drew := b1.c3.next hd
      have sX1 := sX.next hd
      go_region_held3 (fun w' => C3 w.heap.size (.bool rb) (.slice ro rn rc) (.slice so 0 sc) w')
        (with_reducible assumption)
        (first
          | (go_at_call_of 83 (Value.int .i64 1); refine (limbD q.num.natAbs 1 1 x1 rfl HX1.out _ _ _ _ sX1).mono ?_; rintro e w2 ⟨rfl, rfl⟩)
          | (go_at_call_of 83 (Value.int .i64 0); refine (limbD q.num.natAbs 0 0 x0 rfl HX0.out _ _ _ _ sX1).mono ?_; rintro e w3 ⟨rfl, rfl⟩))
      obtain ⟨e0, e1, e2⟩ := hS0
      have hbel := hbel.drew
      clear hor hwr hN sX sX1 b1 hd HX0 HX1 HNA hlen hs
      cases rb with
      | true =>
        have hneg : q.num < 0 := of_decide_eq_true Hneg.out.symm
        by_cases h63 : N = 9223372036854775808
        · have hq : Hid (-9223372036854775808 = q.num) := hid (by have := hNq.out; omega)
          subst h63
          go_wp2_with fail
          go_ret2
          exact whole_yes HD.out hq.out (by omega) (by omega) hbel
        · have h63' : ((N : Int) == 9223372036854775808) = false := by simp; omega
          by_cases hbig : 9223372036854775808 ≤ N
          · have hno : Hid (¬ (q.den = 1 ∧ -9223372036854775808 ≤ q.num ∧ q.num ≤ 9223372036854775807)) := hid (by rintro ⟨_, a, b⟩; have := hNq.out; omega)
            have hb' : decide ((9223372036854775808 : Int) ≤ (N : Int)) = true := decide_eq_true (by omega)
            clear h63
            go_wp2_with fail
            go_ret2
            exact whole_no hno.out hbel
          · have hb' : decide ((9223372036854775808 : Int) ≤ (N : Int)) = false := decide_eq_false (by omega)
            have hq : Hid (-(N : Int) = q.num) := hid (by have := hNq.out; omega)
            have hNl : N ≤ 9223372036854775807 := by omega
            clear h63 hbig
            go_wp2_with fail
            go_ret2
            exact whole_yes HD.out hq.out (by omega) (by omega) hbel
      | false =>
        have hneg : ¬ q.num < 0 := of_decide_eq_false Hneg.out.symm
        by_cases hbig : 9223372036854775808 ≤ N
        · have hno : Hid (¬ (q.den = 1 ∧ -9223372036854775808 ≤ q.num ∧ q.num ≤ 9223372036854775807)) := hid (by rintro ⟨_, a, b⟩; have := hNq.out; omega)
          have hb' : decide ((9223372036854775808 : Int) ≤ (N : Int)) = true := decide_eq_true (by omega)
          go_wp2_with fail
          go_ret2
          exact whole_no hno.out hbel
        · have hb' : decide ((9223372036854775808 : Int) ≤ (N : Int)) = false := decide_eq_false (by omega)
          have hq : Hid ((N : Int) = q.num) := hid (by have := hNq.out; omega)
          have hNl : N ≤ 9223372036854775807 := by omega
          clear hbig
          go_wp2_with fail
          go_ret2
          exact whole_yes HD.out hq.out (by omega) (by omega) hbel

end Go.Proofs.YtjppjhjfogjhaaaGreatDoor
