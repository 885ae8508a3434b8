/-
  The contracts of the reference's divisor, over, Make, Of and Same. Conditions: denominators are not 0; sizes.
-/
import Derived.Test.YteancfcmiiddiaaRefE
import Derived.Test.YteancfcmiiddiaaRatH
namespace Go.Proofs.Yteancfcmiiddiaa
open Go.RowKit
set_option linter.unusedSimpArgs false
set_option linter.unusedVariables false

set_option maxHeartbeats 1000000 in
theorem divisor_any (a b : Nat) (ao bo : Option Addr) (n m cap cap' : Nat) (w : World) (hA : Sl w ao n cap (u32s (dig a))) (hB : Sl w bo m cap' (u32s (dig b))) (hza : ao = none → cap = 0) (hzb : bo = none → cap' = 0) (hn : n ≤ 17179869184) (hm : m ≤ 17179869184) :
    Calls Try.prog 142 #[.slice ao n cap, .slice bo m cap'] w (NumRes w (Nat.gcd a b)) := by
  go_enter Try.func142, Try.ntmps142
  go_wp2_with fail
  go_loopg [0, 1] b (fun k av bv wr => ∃ (x : Nat) (xo yo : Option Addr) (xn yn xc yc : Nat), av = .slice xo xn xc ∧ bv = .slice yo yn yc ∧ Sl wr xo xn xc (u32s (dig x)) ∧ Sl wr yo yn yc (u32s (dig k)) ∧ (xo = none → xc = 0) ∧ (yo = none → yc = 0) ∧ xn ≤ 17179869184 ∧ yn ≤ 17179869184 ∧ Hid (Nat.gcd x k = Nat.gcd a b) ∧ Below w.heap.size w wr)
  case atStart => exact ⟨a, ao, bo, n, m, cap, cap', rfl, rfl, hA, hB, hza, hzb, hn, hm, hid rfl, Below.refl _ _⟩
  case round =>
    obtain ⟨x, xo, yo, xn, yn, xc, yc, rfl, rfl, sx, sy, hzx, hzy, hxn, hyn, hg, hbel⟩ := hrel
    have hyl := sy.lenU
    by_cases hk : gk = 0
    · subst hk
      rw [dig_zero] at hyl
      obtain rfl : yn = 0 := by simpa using hyl.symm
      clear hyl
      have hgx : x = Nat.gcd a b := by have := hg.out; rwa [Nat.gcd_zero_right] at this
      go_wp2_with fail
      go_ret
      exact ⟨_, _, _, rfl, by rw [← hgx]; exact sx, hzx, hbel⟩
    · have hy0 : 1 ≤ yn := by
        rw [← hyl]
        have : dig gk ≠ [] := fun h => hk (dig_nil.1 h)
        cases h : dig gk with
        | nil => exact absurd h this
        | cons _ _ => simp
      have hyl' := hid hyl; clear hyl
      have hlt : x % gk < gk := Nat.mod_lt _ (Nat.pos_of_ne_zero hk)
      have hg2 : Hid (Nat.gcd gk (x % gk) = Nat.gcd a b) := hid (by rw [← hg.out, Nat.gcd_comm gk, ← Nat.gcd_rec, Nat.gcd_comm])
      go_wp2_with fail
      refine (divide_any x gk hk _ _ _ _ _ _ _ sx sy hxn hyn).mono ?_; rintro e w1 ⟨qo, qn, qc, ro, rn, rc, rfl, sq, sr, hzq, hzr, hb1⟩
      have hb2 : Below w.heap.size w w1 := hbel.trans (hb1.mono hbel.size)
      have sy1 := sy.next hb1
      have hrn : rn ≤ 17179869184 := by
        have := sr.lenD (k := yn) (Nat.lt_of_lt_of_le hlt (by rw [← hyl'.out]; exact Nat.le_of_lt (dig_lt gk)))
        omega
      go_wp2_with fail
      go_roundg (x % gk)
      case measure => exact hlt
      case rel => exact ⟨gk, yo, ro, yn, rn, yc, rc, rfl, rfl, sy1, sr, hzy, hzr, hyn, hrn, hg2, hb2⟩

theorem Res.ratOut {w W : World} {G : Nat} {b0 : Bool} {a1 a2 : Option Addr} {n1 n2 k1 k2 : Nat} (h : Res w G b0 a1 n1 k1 a2 n2 k2 W) {neg : Bool} {a b : Nat} (ha : a ≠ 0) (hb : b ≠ 0) {ao bo : Option Addr} {n cap m cap' : Nat}
    (s1 : Sl W ao n cap (u32s (dig (a / Nat.gcd a b)))) (s2 : Sl W bo m cap' (u32s (if b / Nat.gcd a b = 1 then [] else dig (b / Nat.gcd a b)))) (hz : ao = none → cap = 0) (hz' : bo = none → cap' = 0) :
    RatOut w (mkRat (sgn neg a) b) (.returned (.agg #[.bool neg, .slice ao n cap, .slice bo m cap'])) (((W.setCell ⟨G, 0, none⟩ (.bool neg)).setCell ⟨G, 1, none⟩ (.slice ao n cap)).setCell ⟨G, 2, none⟩ (.slice bo m cap')) :=
  h.rc (ratC_of ha hb s1 s2 hz hz')

set_option maxHeartbeats 2000000 in
theorem rover_any (neg : Bool) (a b : Nat) (hb0 : b ≠ 0) (ao bo : Option Addr) (n m cap cap' : Nat) (w : World) (sN : Sl w ao n cap (u32s (dig a))) (sD : Sl w bo m cap' (u32s (dig b))) (hza : ao = none → cap = 0) (hzb : bo = none → cap' = 0) (hn : n ≤ 17179869184) (hm : m ≤ 17179869184) :
    Calls Try.prog 110 #[.bool neg, .slice ao n cap, .slice bo m cap'] w (RatOut w (mkRat (sgn neg a) b)) := by
  have hnl := hid sN.lenU
  have hr := Res.start (Below.refl w.heap.size w) false none 0 0 none 0 0 54
  by_cases ha0 : a = 0
  · subst ha0
    have : n = 0 := by have := hnl.out; rw [dig_zero] at this; exact this.symm
    subst this
    have h0 : mkRat (sgn neg 0) b = 0 := by cases neg <;> simp [sgn]
    rw [h0]
    clear h0
    go_enter Try.func110, Try.ntmps110
    go_wp2_with fail
    refine bodyPost_ret (v := .agg #[.bool false, .slice none 0 0, .slice none 0 0]) (by simp [results, Try.results110, go_sem]) rfl ?_
    exact ⟨_, rfl, ratC_zero _, below_alloc _⟩
  · have hn0 : 1 ≤ n := by
      have := hnl.out
      cases n with
      | zero => exact absurd (List.eq_nil_of_length_eq_zero this) (fun h => ha0 (dig_nil.1 h))
      | succ n => omega
    obtain ⟨G, hG⟩ : ∃ G, Nat.gcd a b = G := ⟨_, rfl⟩
    have hG0 : G ≠ 0 := by rw [← hG]; exact fun h => ha0 (Nat.gcd_eq_zero_iff.1 h).1
    have hGl : lim G ≤ 17179869184 := Nat.le_trans (lim_mono (by rw [← hG]; exact Nat.gcd_le_left _ (Nat.pos_of_ne_zero ha0))) (by rw [lim, hnl.out]; exact hn)
    have hB0 : b / G ≠ 0 := by
      have h1 := Nat.div_mul_cancel (Nat.gcd_dvd_right a b)
      rw [hG] at h1
      intro h; rw [h] at h1; omega
    have HG := hid hG; clear hG
    go_enter Try.func110, Try.ntmps110
    go_wp2_with fail
    refine (divisor_any a b _ _ _ _ _ _ _ (sN.next (below_alloc _)) (sD.next (below_alloc _)) hza hzb hn hm).mono ?_; rintro e w3 ⟨go, gn, gc, rfl, sg, hzg, hb3⟩
    rw [HG.out] at sg
    have sa3 := (sN.next (below_alloc _)).next hb3
    have sb3 := (sD.next (below_alloc _)).next hb3
    have hr3 := hr.next hb3
    have hgn : gn ≤ 17179869184 := by rw [← sg.lenU]; exact hGl
    go_wp2_with fail
    refine (divide_any a G hG0 _ _ _ _ _ _ _ sa3 sg hn hgn).mono ?_; rintro e w5 ⟨qo, qn, qc, ro, rn, rc, rfl, sq, sr, hzq, hzr, hb5⟩
    go_wp2_with fail
    refine (divide_any b G hG0 _ _ _ _ _ _ _ (sb3.next hb5) (sg.next hb5) hm hgn).mono ?_; rintro e w6 ⟨po, pn, pc, ro', rn', rc', rfl, sp, sr', hzp, hzr', hb6⟩
    have hr6 := (hr3.next hb5).next hb6
    have sq6 := sq.next hb6
    go_wp2_with fail
    refine (isOne_any _ _ _ _ _ sp).mono ?_; rintro e w7 ⟨rfl, rfl⟩
    have fin := fun (bo' : Option Addr) (m' c' : Nat) (s2 : Sl w6 bo' m' c' (u32s (if b / Nat.gcd a b = 1 then [] else dig (b / Nat.gcd a b)))) (hz' : bo' = none → c' = 0) => hr6.ratOut (neg := neg) ha0 hb0 (by rw [HG.out]; exact sq6) s2 hzq hz'
    have Fin := hid fin; clear fin
    obtain ⟨B, hB⟩ : ∃ B, b / G = B := ⟨_, rfl⟩
    rw [hB] at sp hB0
    rw [hB]
    have HB := hid hB; clear hB
    obtain ⟨d0, d1, d2, g0, g1, g2, _, _, _, _⟩ := hr6
    by_cases hB1 : B = 1
    · have hd : decide (B = 1) = true := decide_eq_true hB1
      subst hB1
      go_wp2_with fail
      refine bodyPost_ret (v := .agg #[.bool neg, .slice qo qn qc, .slice none 0 0]) (by simp [results, Try.results110, go_sem, d0, d1, d2]) rfl ?_
      exact Fin.out none 0 0 (by rw [HG.out, HB.out]; exact Sl.nil _) (fun _ => rfl)
    · have hd : decide (B = 1) = false := decide_eq_false hB1
      go_wp2_with fail
      refine bodyPost_ret (v := .agg #[.bool neg, .slice qo qn qc, .slice po pn pc]) (by simp [results, Try.results110, go_sem, d0, d1, d2]) rfl ?_
      exact Fin.out po pn pc (by rw [HG.out, HB.out, if_neg hB1]; exact sp) hzp

set_option maxHeartbeats 1000000 in
theorem rMake_any (a d : Int) (h1 : -9223372036854775808 ≤ a) (h2 : a ≤ 9223372036854775807) (h3 : -9223372036854775808 ≤ d) (h4 : d ≤ 9223372036854775807) (w : World) :
    Calls Try.prog 114 #[.int .i64 a, .int .i64 d] w (RatOut2 w (makeRat a d) (makeErr d)) := by
  by_cases hd : d = 0
  · subst hd
    have e1 : makeErr 0 = 11 := rfl
    have e2 : makeRat a 0 = 0 := rfl
    rw [e1, e2]
    clear e1 e2
    go_enter Try.func114, Try.ntmps114
    go_wp2_with fail
    refine bodyPost_ret (v := .tuple #[.agg #[.bool false, .slice none 0 0, .slice none 0 0], .int .i64 11]) (by simp [results, Try.results114, go_sem]) rfl ?_
    exact ⟨_, rfl, ratC_zero _, below_alloc _⟩
  · have e1 : makeErr d = 0 := if_neg hd
    have e2 : makeRat a d = mkRat (sgn (decide (a < 0) != decide (d < 0)) a.natAbs) d.natAbs := by rw [mk_sign]; exact if_neg hd
    have hd' : (d == 0) = false := by simpa using hd
    rw [e1, e2]
    have hr := Res.start (Below.refl w.heap.size w) false none 0 0 none 0 0 54
    clear e1 e2
    have la := lim_abs h1 h2
    have ld := lim_abs h3 h4
    have hd0 : d.natAbs ≠ 0 := by omega
    go_enter Try.func114, Try.ntmps114
    go_wp2_with fail
    refine (absolute_any a h1 h2 _).mono ?_; rintro e w0 ⟨rfl, rfl⟩
    go_wp2_with fail
    refine (natural_any a.natAbs (by omega) _).mono ?_; rintro e w1 ⟨ao, n, cap, rfl, sA, hzA, hb1, _⟩
    have hr1 := hr.next hb1
    go_wp2_with fail
    refine (absolute_any d h3 h4 _).mono ?_; rintro e w0 ⟨rfl, rfl⟩
    go_wp2_with fail
    refine (natural_any d.natAbs (by omega) _).mono ?_; rintro e w2 ⟨bo, m, cap', rfl, sB, hzB, hb2, _⟩
    have hr2 := hr1.next hb2
    have sA2 := sA.next hb2
    have hnA : n ≤ 17179869184 := by rw [← sA.lenU]; exact Nat.le_trans la (by omega)
    have hmB : m ≤ 17179869184 := by rw [← sB.lenU]; exact Nat.le_trans ld (by omega)
    generalize decide (a < 0) = s at *
    generalize decide (d < 0) = t at *
    go_wp2_with fail
    refine (rover_any (s != t) a.natAbs d.natAbs hd0 _ _ _ _ _ _ _ sA2 sB hzA hzB hnA hmB).mono ?_; rintro e w3 ⟨v3, rfl, C3, hb3⟩
    obtain ⟨rb, ro, rn, rc, so, sn, sc, rfl⟩ := C3.shape
    have hr3 := hr2.next hb3
    obtain ⟨d0, d1, d2, g0, g1, g2, _, _, _, _⟩ := hr2.next hb3
    go_wp2_with fail
    refine bodyPost_ret (v := .tuple #[.agg #[.bool rb, .slice ro rn rc, .slice so sn sc], .int .i64 0]) (by simp [results, Try.results114, go_sem, d0, d1, d2]) rfl ?_
    exact (hr3.rc C3).two 0

end Go.Proofs.Yteancfcmiiddiaa
