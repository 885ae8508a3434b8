/-
  Joined out of XRefF, XRefG, XRefH, XStep, XRefI, XRefJ, XRefK, XRefL, XRefM.
-/
import Derived.Test.YtgohfieleckmgaaGreatDoorRefX
import Derived.Test.YtgohfieleckmgaaGreatDoorRatY
import Derived.Test.YtgohfieleckmgaaGreatDoorApp
import Derived.Deep.DeepCutAuto

/-
  The contracts of the reference's divisor, over, Make, Of and Same. Conditions: denominators are not 0; sizes.
-/
namespace Go.Proofs.YtgohfieleckmgaaGreatDoor
open Go.RowKit
set_option linter.unusedSimpArgs false
set_option linter.unusedVariables false

set_option maxHeartbeats 1000000 in
theorem divisor_any (a b : Nat) (ao bo : Option Addr) (n m cap cap' : Nat) (w : World) (hA : Sl w ao n cap (u32s (dig a))) (hB : Sl w bo m cap' (u32s (dig b))) (hza : ao = none → cap = 0) (hzb : bo = none → cap' = 0) (hn : n ≤ 17179869184) (hm : m ≤ 17179869184) :
    Calls Tryz.prog 96 #[.slice ao n cap, .slice bo m cap'] w (NumRes w (Nat.gcd a b)) := by
  go_enter Tryz.func96, Tryz.ntmps96
  go_wp2_with fail
  go_loopg [0, 1] b (fun k av bv wr => ∃ (x : Nat) (xo yo : Option Addr) (xn yn xc yc : Nat), av = .slice xo xn xc ∧ bv = .slice yo yn yc ∧ Sl wr xo xn xc (u32s (dig x)) ∧ Sl wr yo yn yc (u32s (dig k)) ∧ (xo = none → xc = 0) ∧ (yo = none → yc = 0) ∧ xn ≤ 17179869184 ∧ yn ≤ 17179869184 ∧ Hid (Nat.gcd x k = Nat.gcd a b) ∧ Below w.heap.size w wr)
  case atStart => exact ⟨a, ao, bo, n, m, cap, cap', rfl, rfl, hA, hB, hza, hzb, hn, hm, hid rfl, Below.refl _ _⟩
  case round =>
    obtain ⟨x, xo, yo, xn, yn, xc, yc, rfl, rfl, sx, sy, hzx, hzy, hxn, hyn, hg, hbel⟩ := hrel
    have hyl := sy.lenU
    by_cases hk : gk = 0
    · subst hk
      rw [dig_zero] at hyl
      obtain rfl : yn = 0 := by simpa using hyl.symm
      clear hyl
      have hgx : x = Nat.gcd a b := by have := hg.out; rwa [Nat.gcd_zero_right] at this
      go_wp2_with fail
      go_ret
      exact ⟨_, _, _, rfl, by rw [← hgx]; exact sx, hzx, hbel⟩
    · have hy0 : 1 ≤ yn := by
        rw [← hyl]
        have : dig gk ≠ [] := fun h => hk (dig_nil.1 h)
        cases h : dig gk with
        | nil => exact absurd h this
        | cons _ _ => simp
      have hyl' := hid hyl; clear hyl
      have hlt : x % gk < gk := Nat.mod_lt _ (Nat.pos_of_ne_zero hk)
      have hg2 : Hid (Nat.gcd gk (x % gk) = Nat.gcd a b) := hid (by rw [← hg.out, Nat.gcd_comm gk, ← Nat.gcd_rec, Nat.gcd_comm])
      go_wp2_with fail
      refine (divide_any x gk hk _ _ _ _ _ _ _ sx sy hxn hyn).mono ?_; rintro e w1 ⟨qo, qn, qc, ro, rn, rc, rfl, sq, sr, hzq, hzr, hb1⟩
      have hb2 : Below w.heap.size w w1 := hbel.trans (hb1.mono hbel.size)
      have sy1 := sy.next hb1
      have hrn : rn ≤ 17179869184 := by
        have := sr.lenD (k := yn) (Nat.lt_of_lt_of_le hlt (by rw [← hyl'.out]; exact Nat.le_of_lt (dig_lt gk)))
        omega
      go_wp2_with fail
      go_roundg (x % gk)
      case measure => exact hlt
      case rel => exact ⟨gk, yo, ro, yn, rn, yc, rc, rfl, rfl, sy1, sr, hzy, hzr, hyn, hrn, hg2, hb2⟩

theorem Res.ratOut {w W : World} {G : Nat} {b0 : Bool} {a1 a2 : Option Addr} {n1 n2 k1 k2 : Nat} (h : Res w G b0 a1 n1 k1 a2 n2 k2 W) {neg : Bool} {a b : Nat} (ha : a ≠ 0) (hb : b ≠ 0) {ao bo : Option Addr} {n cap m cap' : Nat}
    (s1 : Sl W ao n cap (u32s (dig (a / Nat.gcd a b)))) (s2 : Sl W bo m cap' (u32s (if b / Nat.gcd a b = 1 then [] else dig (b / Nat.gcd a b)))) (hz : ao = none → cap = 0) (hz' : bo = none → cap' = 0) :
    RatOut w (mkRat (sgn neg a) b) (.returned (.agg #[.bool neg, .slice ao n cap, .slice bo m cap'])) (((W.setCell ⟨G, 0, none⟩ (.bool neg)).setCell ⟨G, 1, none⟩ (.slice ao n cap)).setCell ⟨G, 2, none⟩ (.slice bo m cap')) :=
  h.rc (ratC_of ha hb s1 s2 hz hz')

set_option maxHeartbeats 2000000 in
theorem rover_any (neg : Bool) (a b : Nat) (hb0 : b ≠ 0) (ao bo : Option Addr) (n m cap cap' : Nat) (w : World) (sN : Sl w ao n cap (u32s (dig a))) (sD : Sl w bo m cap' (u32s (dig b))) (hza : ao = none → cap = 0) (hzb : bo = none → cap' = 0) (hn : n ≤ 17179869184) (hm : m ≤ 17179869184) :
    Calls Tryz.prog 78 #[.bool neg, .slice ao n cap, .slice bo m cap'] w (RatOut w (mkRat (sgn neg a) b)) := by
  have hnl := hid sN.lenU
  have hr := Res.start (Below.refl w.heap.size w) false none 0 0 none 0 0 25
  by_cases ha0 : a = 0
  · subst ha0
    have : n = 0 := by have := hnl.out; rw [dig_zero] at this; exact this.symm
    subst this
    have h0 : mkRat (sgn neg 0) b = 0 := by cases neg <;> simp [sgn]
    rw [h0]
    clear h0
    go_enter Tryz.func78, Tryz.ntmps78
    go_wp2_with fail
    refine bodyPost_ret (v := .agg #[.bool false, .slice none 0 0, .slice none 0 0]) (by simp [results, Tryz.results78, go_sem]) rfl ?_
    exact ⟨_, rfl, ratC_zero _, below_alloc _⟩
  · have hn0 : 1 ≤ n := by
      have := hnl.out
      cases n with
      | zero => exact absurd (List.eq_nil_of_length_eq_zero this) (fun h => ha0 (dig_nil.1 h))
      | succ n => omega
    obtain ⟨G, hG⟩ : ∃ G, Nat.gcd a b = G := ⟨_, rfl⟩
    have hG0 : G ≠ 0 := by rw [← hG]; exact fun h => ha0 (Nat.gcd_eq_zero_iff.1 h).1
    have hGl : lim G ≤ 17179869184 := Nat.le_trans (lim_mono (by rw [← hG]; exact Nat.gcd_le_left _ (Nat.pos_of_ne_zero ha0))) (by rw [lim, hnl.out]; exact hn)
    have hB0 : b / G ≠ 0 := by
      have h1 := Nat.div_mul_cancel (Nat.gcd_dvd_right a b)
      rw [hG] at h1
      intro h; rw [h] at h1; omega
    have HG := hid hG; clear hG
    go_enter Tryz.func78, Tryz.ntmps78
    go_wp2_with fail
    refine (divisor_any a b _ _ _ _ _ _ _ (sN.next (below_alloc _)) (sD.next (below_alloc _)) hza hzb hn hm).mono ?_; rintro e w3 ⟨go, gn, gc, rfl, sg, hzg, hb3⟩
    rw [HG.out] at sg
    have sa3 := (sN.next (below_alloc _)).next hb3
    have sb3 := (sD.next (below_alloc _)).next hb3
    have hr3 := hr.next hb3
    have hgn : gn ≤ 17179869184 := by rw [← sg.lenU]; exact hGl
    go_wp2_with fail
    refine (divide_any a G hG0 _ _ _ _ _ _ _ sa3 sg hn hgn).mono ?_; rintro e w5 ⟨qo, qn, qc, ro, rn, rc, rfl, sq, sr, hzq, hzr, hb5⟩
    go_wp2_with fail
    refine (divide_any b G hG0 _ _ _ _ _ _ _ (sb3.next hb5) (sg.next hb5) hm hgn).mono ?_; rintro e w6 ⟨po, pn, pc, ro', rn', rc', rfl, sp, sr', hzp, hzr', hb6⟩
    have hr6 := (hr3.next hb5).next hb6
    have sq6 := sq.next hb6
    go_wp2_with fail
    refine (isOne_any _ _ _ _ _ sp).mono ?_; rintro e w7 ⟨rfl, rfl⟩
    have fin := fun (bo' : Option Addr) (m' c' : Nat) (s2 : Sl w6 bo' m' c' (u32s (if b / Nat.gcd a b = 1 then [] else dig (b / Nat.gcd a b)))) (hz' : bo' = none → c' = 0) => hr6.ratOut (neg := neg) ha0 hb0 (by rw [HG.out]; exact sq6) s2 hzq hz'
    have Fin := hid fin; clear fin
    obtain ⟨B, hB⟩ : ∃ B, b / G = B := ⟨_, rfl⟩
    rw [hB] at sp hB0
    rw [hB]
    have HB := hid hB; clear hB
    obtain ⟨d0, d1, d2, g0, g1, g2, _, _, _, _⟩ := hr6
    by_cases hB1 : B = 1
    · have hd : decide (B = 1) = true := decide_eq_true hB1
      subst hB1
      go_wp2_with fail
      refine bodyPost_ret (v := .agg #[.bool neg, .slice qo qn qc, .slice none 0 0]) (by simp [results, Tryz.results78, go_sem, d0, d1, d2]) rfl ?_
      exact Fin.out none 0 0 (by rw [HG.out, HB.out]; exact Sl.nil _) (fun _ => rfl)
    · have hd : decide (B = 1) = false := decide_eq_false hB1
      go_wp2_with fail
      refine bodyPost_ret (v := .agg #[.bool neg, .slice qo qn qc, .slice po pn pc]) (by simp [results, Tryz.results78, go_sem, d0, d1, d2]) rfl ?_
      exact Fin.out po pn pc (by rw [HG.out, HB.out, if_neg hB1]; exact sp) hzp

set_option maxHeartbeats 1000000 in
theorem rMake_any (a d : Int) (h1 : -9223372036854775808 ≤ a) (h2 : a ≤ 9223372036854775807) (h3 : -9223372036854775808 ≤ d) (h4 : d ≤ 9223372036854775807) (w : World) :
    Calls Tryz.prog 73 #[.int .i64 a, .int .i64 d] w (RatOut2 w (makeRat a d) (makeErr d)) := by
  by_cases hd : d = 0
  · subst hd
    have e1 : makeErr 0 = 11 := rfl
    have e2 : makeRat a 0 = 0 := rfl
    rw [e1, e2]
    clear e1 e2
    go_enter Tryz.func73, Tryz.ntmps73
    go_wp2_with fail
    refine bodyPost_ret (v := .tuple #[.agg #[.bool false, .slice none 0 0, .slice none 0 0], .int .i64 11]) (by simp [results, Tryz.results73, go_sem]) rfl ?_
    exact ⟨_, rfl, ratC_zero _, below_alloc _⟩
  · have e1 : makeErr d = 0 := if_neg hd
    have e2 : makeRat a d = mkRat (sgn (decide (a < 0) != decide (d < 0)) a.natAbs) d.natAbs := by rw [mk_sign]; exact if_neg hd
    have hd' : (d == 0) = false := by simpa using hd
    rw [e1, e2]
    have hr := Res.start (Below.refl w.heap.size w) false none 0 0 none 0 0 25
    clear e1 e2
    have la := lim_abs h1 h2
    have ld := lim_abs h3 h4
    have hd0 : d.natAbs ≠ 0 := by omega
    go_enter Tryz.func73, Tryz.ntmps73
    go_wp2_with fail
    refine (absolute_any a h1 h2 _).mono ?_; rintro e w0 ⟨rfl, rfl⟩
    go_wp2_with fail
    refine (natural_any a.natAbs (by omega) _).mono ?_; rintro e w1 ⟨ao, n, cap, rfl, sA, hzA, hb1, _⟩
    have hr1 := hr.next hb1
    go_wp2_with fail
    refine (absolute_any d h3 h4 _).mono ?_; rintro e w0 ⟨rfl, rfl⟩
    go_wp2_with fail
    refine (natural_any d.natAbs (by omega) _).mono ?_; rintro e w2 ⟨bo, m, cap', rfl, sB, hzB, hb2, _⟩
    have hr2 := hr1.next hb2
    have sA2 := sA.next hb2
    have hnA : n ≤ 17179869184 := by rw [← sA.lenU]; exact Nat.le_trans la (by omega)
    have hmB : m ≤ 17179869184 := by rw [← sB.lenU]; exact Nat.le_trans ld (by omega)
    generalize decide (a < 0) = s at *
    generalize decide (d < 0) = t at *
    go_wp2_with fail
    refine (rover_any (s != t) a.natAbs d.natAbs hd0 _ _ _ _ _ _ _ sA2 sB hzA hzB hnA hmB).mono ?_; rintro e w3 ⟨v3, rfl, C3, hb3⟩
    obtain ⟨rb, ro, rn, rc, so, sn, sc, rfl⟩ := C3.shape
    have hr3 := hr2.next hb3
    obtain ⟨d0, d1, d2, g0, g1, g2, _, _, _, _⟩ := hr2.next hb3
    go_wp2_with fail
    refine bodyPost_ret (v := .tuple #[.agg #[.bool rb, .slice ro rn rc, .slice so sn sc], .int .i64 0]) (by simp [results, Tryz.results73, go_sem, d0, d1, d2]) rfl ?_
    exact (hr3.rc C3).two 0

end Go.Proofs.YtgohfieleckmgaaGreatDoor

/-
  The contracts of the reference's Of and Same and of words.number. No condition but sizes.
-/
namespace Go.Proofs.YtgohfieleckmgaaGreatDoor
open Go.RowKit
set_option linter.unusedSimpArgs false
set_option linter.unusedVariables false

set_option maxHeartbeats 1000000 in
theorem rOf_any (a d : Int) (h1 : -9223372036854775808 ≤ a) (h2 : a ≤ 9223372036854775807) (h3 : -9223372036854775808 ≤ d) (h4 : d ≤ 9223372036854775807) (w : World) :
    Calls Tryz.prog 30 #[.int .i64 a, .int .i64 d] w (RatOut w (makeRat a d)) := by
  have hr := Res.start (Below.refl w.heap.size w) false none 0 0 none 0 0 25
  go_enter Tryz.func30, Tryz.ntmps30
  go_wp2_with fail
  refine (rMake_any a d h1 h2 h3 h4 _).mono ?_; rintro e w1 ⟨v1, rfl, C1, hb1⟩
  obtain ⟨rb, ro, rn, rc, so, sn, sc, rfl⟩ := C1.shape
  have hr1 := (hr.next hb1).new (.cells #[.bool rb, .slice ro rn rc, .slice so sn sc] 25)
  obtain ⟨d0, d1, d2, g0, g1, g2, _, _, _, _⟩ := hr1
  have hr1 := (hr.next hb1).new (.cells #[.bool rb, .slice ro rn rc, .slice so sn sc] 25)
  go_wp2_with fail
  refine bodyPost_ret (v := .agg #[.bool rb, .slice ro rn rc, .slice so sn sc]) (by simp [results, Tryz.results30, go_sem, d0, d1, d2]) rfl ?_
  exact hr1.rc (C1.next (below_alloc _))

/-- Two rationals' fields. -/
def sameB (s t : Bool) (N M D E : List Nat) : Bool := s == t && (decide (N = M) && decide (D = E))

theorem below_drewNs {B : Nat} {w : World} (n : Nat) : Below B w (w.drewN n) := ⟨rfl, rfl, rfl, Nat.le_refl _, fun _ _ => rfl⟩

set_option maxHeartbeats 1000000 in
theorem rSame_any (s t : Bool) (N M D E : List Nat) (ao bo co eo : Option Addr) (n cap m cap' n2 cap2 m2 cap3 : Nat) (w : World) (hN : Sl w ao n cap (u32s N)) (hD : Sl w bo m cap' (u32s D)) (hM : Sl w co n2 cap2 (u32s M)) (hE : Sl w eo m2 cap3 (u32s E)) :
    Calls Tryz.prog 23 #[.agg #[.bool s, .slice ao n cap, .slice bo m cap'], .agg #[.bool t, .slice co n2 cap2, .slice eo m2 cap3]] w fun e w' => e = .returned (.bool (sameB s t N M D E)) ∧ Below w.heap.size w w' := by
  have hb0 := ((Below.refl w.heap.size w).alloc (Nat.le_refl _) (.cells #[.bool s, .slice ao n cap, .slice bo m cap'] 25)).alloc (by simp) (.cells #[.bool t, .slice co n2 cap2, .slice eo m2 cap3] 25)
  by_cases hst : s = t
  · subst hst
    have hss : (s == s) = true := by simp
    have hres : Hid (sameB s s N M D E = (decide (N = M) && decide (D = E))) := hid (by unfold sameB; rw [hss]; rfl)
    go_enter Tryz.func23, Tryz.ntmps23
    go_wp2_with fail
    refine (same_any N M _ _ _ _ _ _ _ (hN.next hb0) (hM.next hb0)).mono ?_; rintro e w1 ⟨rfl, q1, rfl⟩
    by_cases h1 : N = M
    · have hd : decide (N = M) = true := decide_eq_true h1
      have hres : Hid (sameB s s N M D E = decide (D = E)) := hid (by rw [hres.out, hd]; rfl)
      clear h1
      go_wp2_with fail
      refine (same_any D E _ _ _ _ _ _ _ ((hD.next hb0).drewN q1) ((hE.next hb0).drewN q1)).mono ?_; rintro e w1 ⟨rfl, q2, rfl⟩
      go_wp2_with fail
      go_ret
      exact ⟨retB hres.out.symm, hb0.trans (by go_simp; exact below_drewNs _)⟩
    · have hd : decide (N = M) = false := decide_eq_false h1
      have hres : Hid (sameB s s N M D E = false) := hid (by rw [hres.out, hd]; rfl)
      clear h1
      go_wp2_with fail
      go_ret
      exact ⟨retB hres.out.symm, hb0.trans (by go_simp; exact below_drewNs _)⟩
  · have hss : (s == t) = false := by simpa using hst
    have hres : Hid (sameB s t N M D E = false) := hid (by unfold sameB; rw [hss]; rfl)
    clear hst
    go_enter Tryz.func23, Tryz.ntmps23
    go_wp2_with fail
    go_ret
    exact ⟨retB hres.out.symm, hb0⟩

theorem sameC {q r : Rat} : sameB (decide (q.num < 0)) (decide (r.num < 0)) (dig q.num.natAbs) (dig r.num.natAbs) (denL q) (denL r) = decide (q = r) := by
  rw [Bool.eq_iff_iff]
  unfold sameB
  simp only [Bool.and_eq_true, beq_iff_eq, decide_eq_true_eq]
  constructor
  · rintro ⟨h1, h2, h3⟩
    rw [← (canon_ok q).2, ← (canon_ok r).2, h1, h2, h3]
  · rintro rfl
    exact ⟨rfl, rfl, rfl⟩

theorem rSameC (q r : Rat) (v v2 : Value) (w : World) (h : RatC w v q) (h' : RatC w v2 r) :
    Calls Tryz.prog 23 #[v, v2] w fun e w' => e = .returned (.bool (decide (q = r))) ∧ Below w.heap.size w w' := by
  obtain ⟨ao, bo, n, cap, m, cap', rfl, h1, h2, _⟩ := h
  obtain ⟨co, eo, n2, cap2, m2, cap3, rfl, h3, h4, _⟩ := h'
  have := rSame_any (decide (q.num < 0)) (decide (r.num < 0)) _ _ _ _ ao bo co eo n cap m cap' n2 cap2 m2 cap3 w h1 h2 h3 h4
  rwa [sameC] at this

end Go.Proofs.YtgohfieleckmgaaGreatDoor

/-
  The contracts of the reference's Valid, den and Take. No condition but sizes.
-/
namespace Go.Proofs.YtgohfieleckmgaaGreatDoor
open Go.RowKit
set_option linter.unusedSimpArgs false
set_option linter.unusedVariables false

theorem proper_last {l : List Nat} {k y : Nat} (hl : l.length = k + 1) (hy : l[k]? = some y) : proper l = decide (y ≠ 0) := by
  unfold proper
  rw [decide_eq_decide, proper_iff]
  have hne : l ≠ [] := by rintro rfl; simp at hl
  have : l.getLastD 1 = y := by
    rw [List.getLastD_eq_getLast?, List.getLast?_eq_getElem?, show l.length - 1 = k by omega, hy]; rfl
  rw [this]
  simp [hne]

set_option maxHeartbeats 2000000 in
theorem rValid_any (neg : Bool) (N D : List Nat) (hN : Lim N) (hD : Lim D) (ao bo : Option Addr) (n m cap cap' : Nat) (w : World) (h : Sl w ao n cap (u32s N)) (h' : Sl w bo m cap' (u32s D)) (hza : ao = none → cap = 0) (hzb : bo = none → cap' = 0) (hn : n ≤ 17179869184) (hm : m ≤ 17179869184) :
    Calls Tryz.prog 49 #[.agg #[.bool neg, .slice ao n cap, .slice bo m cap']] w fun e w' => e = .returned (.bool (ratOk neg N D)) ∧ Below w.heap.size w w' := by
  have hnl := h.lenU
  have hml := h'.lenU
  obtain ⟨ok, hok⟩ : ∃ b, ratOk neg N D = b := ⟨_, rfl⟩
  rw [hok]
  have hr : ok = (proper N && proper D && (if N = [] then !neg && decide (D = []) else if D = [] then true else decide (val D ≠ 1) && decide (Nat.gcd (val N) (val D) = 1))) := hok.symm
  clear hok
  have hb0 := below_alloc (w := w) (.cells #[.bool neg, .slice ao n cap, .slice bo m cap'] 25)
  -- what stands when the denominator's list is without a zero at the end
  have oneD := fun (hp : proper D = true) => (by
    have e := proper_dig hD hp
    have s := h'.next hb0
    rw [e] at s
    exact isOne_any (val D) bo m cap' _ s : Calls Tryz.prog 95 #[.slice bo m cap'] (w.alloc (.cells #[.bool neg, .slice ao n cap, .slice bo m cap'] 25)) fun e w' => e = .returned (.bool (decide (val D = 1))) ∧ (w.alloc (.cells #[.bool neg, .slice ao n cap, .slice bo m cap'] 25)) = w')
  have OneD := hid oneD
  clear oneD
  -- the test of the numerator's end
  by_cases hA : proper N = true
  · have tN : n = 0 ∨ ∃ k y b off : Nat, n = k + 1 ∧ ao = some ⟨b, off, none⟩ ∧ (w.alloc (.cells #[.bool neg, .slice ao n cap, .slice bo m cap'] 25)).cell? ⟨b, off + k, none⟩ = some (.int .u32 (y : Int)) ∧ y ≠ 0 := by
      cases n with
      | zero => exact .inl rfl
      | succ k =>
        obtain ⟨y, hy, b, off, hao, hcell⟩ := (h.next hb0).u32 (show k < k + 1 by omega)
        refine .inr ⟨k, y, b, off, rfl, hao, hcell, ?_⟩
        rw [proper_last hnl hy] at hA
        exact of_decide_eq_true hA
    by_cases hB : proper D = true
    · have tD : m = 0 ∨ ∃ k y b off : Nat, m = k + 1 ∧ bo = some ⟨b, off, none⟩ ∧ (w.alloc (.cells #[.bool neg, .slice ao n cap, .slice bo m cap'] 25)).cell? ⟨b, off + k, none⟩ = some (.int .u32 (y : Int)) ∧ y ≠ 0 := by
        cases m with
        | zero => exact .inl rfl
        | succ k =>
          obtain ⟨y, hy, b, off, hao, hcell⟩ := (h'.next hb0).u32 (show k < k + 1 by omega)
          refine .inr ⟨k, y, b, off, rfl, hao, hcell, ?_⟩
          rw [proper_last hml hy] at hB
          exact of_decide_eq_true hB
      rw [hA, hB] at hr
      simp only [Bool.true_and] at hr
      have eN := proper_dig hN hA
      have eD := proper_dig hD hB
      have oneD := OneD.out hB
      have hN0 : N = [] ↔ n = 0 := by rw [← hnl]; exact List.length_eq_zero_iff.symm
      have hD0 : D = [] ↔ m = 0 := by rw [← hml]; exact List.length_eq_zero_iff.symm
      have sN := h.next hb0
      have sD := h'.next hb0
      rw [eN] at sN
      rw [eD] at sD
      have hgl : Hid (lim (Nat.gcd (val N) (val D)) ≤ 17179869184 ∨ val N = 0) := hid (by
        by_cases h0 : val N = 0
        · exact .inr h0
        · left
          refine Nat.le_trans (lim_mono (Nat.gcd_le_left _ (Nat.pos_of_ne_zero h0))) ?_
          have := congrArg List.length eN
          unfold lim; omega)
      clear OneD
      have OneD := hid oneD
      clear oneD hA hB eN eD hN hD hnl hml h h'
      by_cases hd1 : val D = 1
      · have hdd : decide (val D = 1) = true := decide_eq_true hd1
        have hD1 : D ≠ [] := by rintro rfl; cases hd1
        have hres : Hid (ok = false) := hid (by rw [hr]; simp [hd1, hD1])
        rw [hdd] at OneD
        clear hr hN0 hD0 hd1 hdd hD1 hgl sN sD
        rcases tN with rfl | ⟨k, y, b, off, rfl, rfl, hcell, hy0⟩
        · rcases tD with rfl | ⟨k', y', b', off', rfl, rfl, hcell', hy0'⟩
          · go_enter Tryz.func49, Tryz.ntmps49
            go_wp2_with fail
            refine (OneD.out).mono ?_; rintro e w1 ⟨rfl, rfl⟩
            go_wp2_with fail
            go_ret
            exact ⟨retB hres.out.symm, hb0⟩
          · have hyb' : ((y' : Int) == 0) = false := by simp; omega
            go_enter Tryz.func49, Tryz.ntmps49
            go_wp2_with fail
            refine (OneD.out).mono ?_; rintro e w1 ⟨rfl, rfl⟩
            go_wp2_with fail
            go_ret
            exact ⟨retB hres.out.symm, hb0⟩
        · have hyb : ((y : Int) == 0) = false := by simp; omega
          rcases tD with rfl | ⟨k', y', b', off', rfl, rfl, hcell', hy0'⟩
          · go_enter Tryz.func49, Tryz.ntmps49
            go_wp2_with fail
            refine (OneD.out).mono ?_; rintro e w1 ⟨rfl, rfl⟩
            go_wp2_with fail
            go_ret
            exact ⟨retB hres.out.symm, hb0⟩
          · have hyb' : ((y' : Int) == 0) = false := by simp; omega
            go_enter Tryz.func49, Tryz.ntmps49
            go_wp2_with fail
            refine (OneD.out).mono ?_; rintro e w1 ⟨rfl, rfl⟩
            go_wp2_with fail
            go_ret
            exact ⟨retB hres.out.symm, hb0⟩
      · have hdd : decide (val D = 1) = false := decide_eq_false hd1
        rw [hdd] at OneD
        have hr : ok = (if n = 0 then !neg && decide (m = 0) else if m = 0 then true else decide (Nat.gcd (val N) (val D) = 1)) := by
          rw [hr]
          simp only [hN0, hD0, decide_eq_true hd1, ne_eq, hd1, not_false_eq_true, decide_true, Bool.true_and]
        clear hd1 hdd hN0 hD0
        generalize val N = a at *
        generalize val D = b at *
        rcases tN with rfl | ⟨k, y, b1, off, rfl, rfl, hcell, hy0⟩
        · rw [if_pos rfl] at hr
          have hr := hid hr
          clear hgl
          cases neg with
          | true =>
            rcases tD with rfl | ⟨k', y', b', off', rfl, rfl, hcell', hy0'⟩
            · go_enter Tryz.func49, Tryz.ntmps49
              go_wp2_with fail
              refine (OneD.out).mono ?_; rintro e w1 ⟨rfl, rfl⟩
              go_wp2_with fail
              go_ret
              exact ⟨retB (by rw [hr.out]; rfl), hb0⟩
            · have hyb' : ((y' : Int) == 0) = false := by simp; omega
              go_enter Tryz.func49, Tryz.ntmps49
              go_wp2_with fail
              refine (OneD.out).mono ?_; rintro e w1 ⟨rfl, rfl⟩
              go_wp2_with fail
              go_ret
              exact ⟨retB (by rw [hr.out]; rfl), hb0⟩
          | false =>
            rcases tD with rfl | ⟨k', y', b', off', rfl, rfl, hcell', hy0'⟩
            · go_enter Tryz.func49, Tryz.ntmps49
              go_wp2_with fail
              refine (OneD.out).mono ?_; rintro e w1 ⟨rfl, rfl⟩
              go_wp2_with fail
              go_ret
              exact ⟨retB (by rw [hr.out]; rfl), hb0⟩
            · have hyb' : ((y' : Int) == 0) = false := by simp; omega
              go_enter Tryz.func49, Tryz.ntmps49
              go_wp2_with fail
              refine (OneD.out).mono ?_; rintro e w1 ⟨rfl, rfl⟩
              go_wp2_with fail
              go_ret
              exact ⟨retB (by rw [hr.out]; simp; try omega), hb0⟩
        · rw [if_neg (by omega)] at hr
          have hyb : ((y : Int) == 0) = false := by simp; omega
          rcases tD with rfl | ⟨k', y', b', off', rfl, rfl, hcell', hy0'⟩
          · rw [if_pos rfl] at hr
            have hr := hid hr
            go_enter Tryz.func49, Tryz.ntmps49
            go_wp2_with fail
            refine (OneD.out).mono ?_; rintro e w1 ⟨rfl, rfl⟩
            go_wp2_with fail
            go_ret
            exact ⟨retB hr.out.symm, hb0⟩
          · rw [if_neg (by omega)] at hr
            have hr := hid hr
            have hyb' : ((y' : Int) == 0) = false := by simp; omega
            go_enter Tryz.func49, Tryz.ntmps49
            go_wp2_with fail
            refine (OneD.out).mono ?_; rintro e w1 ⟨rfl, rfl⟩
            go_wp2_with fail
            refine (divisor_any a b _ _ _ _ _ _ _ sN sD hza hzb hn hm).mono ?_; rintro e w3 ⟨go, gn, gc, rfl, sg, hzg, hb3⟩
            go_wp2_with fail
            refine (isOne_any _ _ _ _ _ sg).mono ?_; rintro e w7 ⟨rfl, rfl⟩
            go_wp2_with fail
            go_ret
            exact ⟨retB hr.out.symm, below_chain hb0 hb3⟩
    · have hB' : proper D = false := by simpa using hB
      have hres : Hid (ok = false) := hid (by rw [hr, hB']; simp)
      obtain ⟨k', b', off', rfl, rfl, hcell'⟩ : ∃ k b off : Nat, m = k + 1 ∧ bo = some ⟨b, off, none⟩ ∧ (w.alloc (.cells #[.bool neg, .slice ao n cap, .slice bo m cap'] 25)).cell? ⟨b, off + k, none⟩ = some (.int .u32 0) := by
        cases m with
        | zero =>
          obtain rfl : D = [] := List.eq_nil_of_length_eq_zero hml
          exact absurd rfl hB
        | succ k =>
          obtain ⟨y, hy, b, off, hao, hcell⟩ := (h'.next hb0).u32 (show k < k + 1 by omega)
          rw [proper_last hml hy] at hB
          obtain rfl : y = 0 := by simpa using hB
          exact ⟨k, b, off, rfl, hao, hcell⟩
      clear hr hB hB' OneD hnl hml hA hN hD h h'
      rcases tN with rfl | ⟨k, y, b, off, rfl, rfl, hcell, hy0⟩
      · go_enter Tryz.func49, Tryz.ntmps49
        go_wp2_with fail
        go_ret
        exact ⟨retB hres.out.symm, hb0⟩
      · have hyb : ((y : Int) == 0) = false := by simp; omega
        go_enter Tryz.func49, Tryz.ntmps49
        go_wp2_with fail
        go_ret
        exact ⟨retB hres.out.symm, hb0⟩
  · have hA' : proper N = false := by simpa using hA
    have hres : Hid (ok = false) := hid (by rw [hr, hA']; rfl)
    obtain ⟨k, b, off, rfl, rfl, hcell⟩ : ∃ k b off : Nat, n = k + 1 ∧ ao = some ⟨b, off, none⟩ ∧ (w.alloc (.cells #[.bool neg, .slice ao n cap, .slice bo m cap'] 25)).cell? ⟨b, off + k, none⟩ = some (.int .u32 0) := by
      cases n with
      | zero =>
        obtain rfl : N = [] := List.eq_nil_of_length_eq_zero hnl
        exact absurd rfl hA
      | succ k =>
        obtain ⟨y, hy, b, off, hao, hcell⟩ := (h.next hb0).u32 (show k < k + 1 by omega)
        rw [proper_last hnl hy] at hA
        obtain rfl : y = 0 := by simpa using hA
        exact ⟨k, b, off, rfl, hao, hcell⟩
    clear hr hA hA' OneD hnl hml hN hD h h'
    go_enter Tryz.func49, Tryz.ntmps49
    go_wp2_with fail
    go_ret
    exact ⟨retB hres.out.symm, hb0⟩

end Go.Proofs.YtgohfieleckmgaaGreatDoor

/-
  append as a step of a region that draws, elements of any number of cells; the contracts of the reference's den and Take. No condition but sizes.
-/
namespace Go.Proofs.YtgohfieleckmgaaGreatDoor
open Go.RowKit
set_option linter.unusedSimpArgs false
set_option linter.unusedVariables false

/-- 'append(v, x...)' where the call owns v, as an operation. -/
theorem op_append {P : Program} {w : World} {o : Oper} {a : Act} {K : Act → World → Prop} {Q : Exit → Act → World → Prop} (s x : Operand) (t : TypeId)
    (ho : o.op = .call { callee := .builtin .append, args := #[s, x], argTypes := #[t, t] }) (e : TypeId) (z : Value) (size bytes : Nat) (ht : P.underlying t = some (.slice e))
    (hinfo : (P.info? e).map (fun i => (i.zero, i.size, i.bytes)) = some (some z, size, bytes)) (hzs : z.cells.size = size) (hsz : 0 < size)
    (base : Nat) (v : Value) (n : Nat) (xs : List Value) (hs : a.eval s = v) (hown : w.ownsRow base e size v n xs)
    (ao : Option Addr) (m c : Nat) (news : List Value) (hx : a.eval x = .slice ao m c) (hl : news.length = m * size) (hc : ∀ ad, ao = some ad → ∀ j u, news[j]? = some u → w.cell? (ad.add j) = some u)
    (hz : ao = none → m = 0 ∧ c = 0) (h1 : ∀ u ∈ news, u.oneCell' = true)
    (hroom : (n + m) * bytes ≤ 140737488355328) (hml : n + m ≤ 9223372036854775807) (hbase : base ≤ w.heap.size)
    (h : ∀ v' w', w'.ownsRow base e size v' (n + m) (xs ++ news) → w.grownBy w' v.ownBlock → Below base w w' → K (a.put o.dst v') w') : o.wp P a w K Q := by
  obtain ⟨i, hi, hz0, hsz', hby⟩ := info_parts hinfo
  cases ao with
  | none =>
    obtain ⟨rfl, rfl⟩ := hz rfl
    obtain rfl : news = [] := List.eq_nil_of_length_eq_zero (by simpa using hl)
    have hrun := run_append_owned_none (P := P) (w := w) base t o.type e i size ht hi v n xs hown
    unfold Oper.wp
    simp [execOp, ho, resolve, invoke, builtin, hs, hx, hrun, Result.andThen]
    exact h v w (by simpa using hown) (World.grownBy.refl _ _) (Below.refl _ _)
  | some ad =>
    refine wp_append_own w s x t ho base e i z size bytes ht hi hz0 hsz' hby hzs hsz v n xs hs hown ad m c news hx hl (hc ad rfl) h1 (by unfold maxLen; omega) hroom hbase ?_
    intro v' w' ho' hg _
    exact h v' w' ho' hg ((Below.refl _ _).grown hg hbase (fun k hk => (hown.lt k hk).1))

/-- The same as a step of a region that draws. -/
theorem step_app {P : Program} {w : World} {ops : Array Oper} {o : Oper} {a : Act} {K : Act → World → Prop} {Q : Exit → Act → World → Prop} {E : Prop} (hgd : o.guard = none) (s x : Operand) (t : TypeId)
    (ho : o.op = .call { callee := .builtin .append, args := #[s, x], argTypes := #[t, t] }) (e : TypeId) (z : Value) (size bytes : Nat) (ht : P.underlying t = some (.slice e))
    (hinfo : (P.info? e).map (fun i => (i.zero, i.size, i.bytes)) = some (some z, size, bytes)) (hzs : z.cells.size = size) (hsz : 0 < size)
    (base : Nat) (v : Value) (n : Nat) (xs : List Value) (hs : a.eval s = v) (hown : w.ownsRow base e size v n xs)
    (ao : Option Addr) (m c : Nat) (news : List Value) (hx : a.eval x = .slice ao m c) (hl : news.length = m * size) (hc : ∀ ad, ao = some ad → ∀ j u, news[j]? = some u → w.cell? (ad.add j) = some u)
    (hz : ao = none → m = 0 ∧ c = 0) (h1 : ∀ u ∈ news, u.oneCell' = true)
    (hroom : (n + m) * bytes ≤ 140737488355328) (hml : n + m ≤ 9223372036854775807) (hbase : base ≤ w.heap.size)
    (h : ∀ v' w', w'.ownsRow base e size v' (n + m) (xs ++ news) → w.grownBy w' v.ownBlock → Below base w w' → K (a.put o.dst v') w') :
    if Region.wanted o (yielded ops a.tmps) = true then Oper.wp P o a w K Q else E := by
  have hw : Region.wanted o (yielded ops a.tmps) = true := by simp [Region.wanted, hgd]
  rw [if_pos hw]
  exact op_append s x t ho e z size bytes ht hinfo hzs hsz base v n xs hs hown ao m c news hx hl hc hz h1 hroom hml hbase h

/-- What the one-cell slice of limbs gives 'append'. -/
theorem Sl.app {w : World} {ao : Option Addr} {n cap : Nat} {xs : List Value} (h : Sl w ao n cap xs) (hz : ao = none → cap = 0) : xs.length = n * 1 ∧ (∀ ad, ao = some ad → ∀ j u, xs[j]? = some u → w.cell? (ad.add j) = some u) ∧ (ao = none → n = 0 ∧ cap = 0) :=
  ⟨by rw [h.len, Nat.mul_one], fun ad e => by subst e; exact h.cells, fun e => by subst e; exact ⟨h.none_zero.1, hz rfl⟩⟩

/-- The denominator's limbs. -/
theorem den_any (q : Rat) (v : Value) (w : World) (h : RatC w v q) : Calls Tryz.prog 77 #[v] w (NumRes w q.den) := by
  obtain ⟨ao, bo, n, cap, m, cap', rfl, h1, h2, hz, hz'⟩ := h
  have hl := h2.lenU
  have hb0 := below_alloc (w := w) (.cells #[.bool (decide (q.num < 0)), .slice ao n cap, .slice bo m cap'] 25)
  unfold denL at hl h2
  generalize decide (q.num < 0) = s at *
  by_cases hd : q.den = 1
  · rw [if_pos hd] at hl
    obtain rfl : m = 0 := by simpa using hl.symm
    rw [hd]
    clear h2 hl hd
    go_enter Tryz.func77, Tryz.ntmps77
    go_wp2_with fail
    go_ret
    refine ⟨_, _, _, rfl, ?_, (fun h => by cases h), below_chain hb0 (below_alloc _)⟩
    have h1 : dig 1 = [1] := by rw [dig_pos (by decide), dig_zero]
    rw [h1]
    have := (one_limb (w := w.alloc (.cells #[.bool s, .slice ao n cap, .slice bo 0 cap'] 25)) 1 (by decide)).1
    simpa using this
  · rw [if_neg hd] at hl h2
    have hm : 1 ≤ m := by
      cases m with
      | zero => exact absurd (List.eq_nil_of_length_eq_zero hl) (fun h => q.den_nz (dig_nil.1 h))
      | succ m => omega
    clear hl
    go_enter Tryz.func77, Tryz.ntmps77
    go_wp2_with fail
    go_ret
    exact ⟨_, _, _, rfl, h2.next hb0, hz', hb0⟩

end Go.Proofs.YtgohfieleckmgaaGreatDoor

/-
  The contract of the reference's Take. No condition but sizes.
-/
namespace Go.Proofs.YtgohfieleckmgaaGreatDoor
open Go.RowKit
set_option linter.unusedSimpArgs false
set_option linter.unusedVariables false

set_option maxHeartbeats 2000000 in
theorem rTake_any (q : Rat) (v : Value) (w : World) (h : RatV w v q) : Calls Tryz.prog 75 #[v] w (RatOut w q) := by
  obtain ⟨neg, N, D, ao, bo, n, cap, m, cap', rfl, sN, sD, hN, hD, hza, hzb, hn, hm, hq⟩ := h
  have hV := fun W (hb : Below w.heap.size w W) => rValid_any neg N D hN hD ao bo n m cap cap' W (sN.next hb) (sD.next hb) hza hzb hn hm
  have HV := hid hV; clear hV
  have hB0 : Bk w w.heap.size (.bool neg) (.slice ao n cap) (.slice bo m cap') ((w.alloc (.cells #[.bool neg, .slice ao n cap, .slice bo m cap'] 25)).alloc (.cells #[.bool false, .slice none 0 0, .slice none 0 0] 25)) := (Bk.start (Below.refl _ _) rfl _ _ _ _).new _
  have hG0 : Bk w (w.heap.size + 1) (.bool false) (.slice none 0 0) (.slice none 0 0) ((w.alloc (.cells #[.bool neg, .slice ao n cap, .slice bo m cap'] 25)).alloc (.cells #[.bool false, .slice none 0 0, .slice none 0 0] 25)) := Bk.start (below_alloc _) (by simp) _ _ _ _
  cases hok : ratOk neg N D with
  | false =>
    rw [hok] at HV
    have hq0 : q = 0 := by rw [← hq, ratOf, hok]; rfl
    subst hq0
    clear hok hq
    go_enter Tryz.func75, Tryz.ntmps75
    go_wp2_with fail
    refine (HV.out _ hB0.bel).mono ?_; rintro e w1 ⟨rfl, hb1⟩
    have hG := hG0.next hb1
    obtain ⟨d0, d1, d2⟩ := hG.c3
    have f0 := hG.free 0
    have f1 := hG.free 1
    have f2 := hG.free 2
    go_wp2_with fail
    refine bodyPost_ret (v := .agg #[.bool false, .slice none 0 0, .slice none 0 0]) (by simp [results, Tryz.results75, go_sem, d0, d1, d2]) rfl ?_
    exact hG.res.rc (ratC_zero _)
  | true =>
    rw [hok] at HV
    have hfa := ratOk_facts hN hD hok
    rw [hq] at hfa
    obtain ⟨hN', hneg, hD'⟩ := hfa
    have hD2 : D = denL q := by
      unfold denL
      by_cases hd : D = []
      · rw [if_pos hd] at hD'; rw [if_pos hD']; exact hd
      · rw [if_neg hd] at hD'
        by_cases h1 : q.den = 1
        · exfalso
          unfold ratOk at hok
          simp only [Bool.and_eq_true] at hok
          obtain ⟨_, h3⟩ := hok
          by_cases hN0 : N = []
          · rw [if_pos hN0] at h3; simp at h3; exact hd h3.2
          · rw [if_neg hN0, if_neg hd] at h3
            simp only [Bool.and_eq_true, decide_eq_true_eq] at h3
            apply h3.1
            rw [hD', val_dig]; exact h1
        · rw [if_neg h1]; exact hD'
    have hNl := hid hN'
    have hDl := hid hD2
    have Hneg := hid hneg
    clear hok hN' hneg hD' hD2 hq
    go_enter Tryz.func75, Tryz.ntmps75
    go_wp2_with fail
    refine (HV.out _ hB0.bel).mono ?_; rintro e w1 ⟨rfl, hb1⟩
    have hB := hB0.next hb1
    have hG := hG0.next hb1
    clear hB0 hG0 HV
    have sN1 := sN.next hB.bel.drew
    have sD1 := sD.next hB.bel.drew
    obtain ⟨l1, l2, l3⟩ := sN1.app hza
    have hS0 : C3 w.heap.size (.bool neg) (.slice ao n cap) (.slice bo m cap') w1.drew := hB.drew.c3
    have hK : ∀ w' w'', C3 w.heap.size (.bool neg) (.slice ao n cap) (.slice bo m cap') w' → Below w'.heap.size w' w'' → C3 w.heap.size (.bool neg) (.slice ao n cap) (.slice bo m cap') w'' := fun w' w'' h hb => h.next hb
    have hSt : ∀ w' (x y z : Value), C3 w.heap.size (.bool neg) (.slice ao n cap) (.slice bo m cap') w' → C3 w.heap.size (.bool neg) (.slice ao n cap) (.slice bo m cap') (((w'.setCell ⟨w.heap.size + 1, 0, none⟩ x).setCell ⟨w.heap.size + 1, 1, none⟩ y).setCell ⟨w.heap.size + 1, 2, none⟩ z) := fun w' x y z h => h.set3 (by omega) _ _ _
    go_wp2_with fail
    go_region_held3 (fun w' => C3 w.heap.size (.bool neg) (.slice ao n cap) (.slice bo m cap') w')
      (repeat (first | with_reducible assumption | with_reducible exact hSt _ _ _ _ (by assumption) | with_reducible refine hK _ _ ?_ hb2 | with_reducible refine hK _ _ ?_ hb3))
      (first
        | (refine step_app (by rfl) (.const (.slice none 0 0)) (.tmp 10) 23 (by rfl) 102 _ 1 4 Tryz.underlying23 Tryz.infoU32 rfl (by decide) w1.drew.heap.size _ 0 [] (by rfl) (World.ownsRow_nil _ _ _ _) ao n cap (u32s N) (by rfl) l1 l2 l3 (u32s_one _) (by omega) (by omega) (Nat.le_refl _) ?_; intro va w2 own2 _ hb2; obtain ⟨xo, xc, rfl, sX, zX⟩ := ownsSlz own2; obtain ⟨m1, m2, m3⟩ := (sD1.next hb2).app hzb)
        | (refine step_app (by rfl) (.const (.slice none 0 0)) (.tmp 13) 23 (by rfl) 102 _ 1 4 Tryz.underlying23 Tryz.infoU32 rfl (by decide) w2.heap.size _ 0 [] (by rfl) (World.ownsRow_nil _ _ _ _) bo m cap' (u32s D) (by rfl) m1 m2 m3 (u32s_one _) (by omega) (by omega) (Nat.le_refl _) ?_; intro vb w3 own3 _ hb3; obtain ⟨yo, yc, rfl, sY, zY⟩ := ownsSlz own3; have hG3 := (hG.drew.next hb2).next hb3; obtain ⟨d0, d1, d2⟩ := hG3.c3; have f0 := hG3.free 0; have f1 := hG3.free 1; have f2 := hG3.free 2))
    go_wp2_with fail
    refine bodyPost_ret (v := .agg #[.bool neg, .slice xo (0 + n) xc, .slice yo (0 + m) yc]) (by simp [results, Tryz.results75, go_sem, d0, d1, d2]) rfl ?_
    rw [Nat.zero_add, Nat.zero_add]
    refine hG3.res.rc ⟨xo, yo, n, xc, m, yc, by rw [Hneg.out], ?_, ?_, zX, zY⟩
    · have := (sX.next hb3)
      rw [Nat.zero_add, List.nil_append, hNl.out] at this
      exact this
    · rw [Nat.zero_add, List.nil_append, hDl.out] at sY
      exact sY

end Go.Proofs.YtgohfieleckmgaaGreatDoor

/-
  Two variables with rationals; the contracts of the reference's Sign and Neg. No condition but sizes.
-/
namespace Go.Proofs.YtgohfieleckmgaaGreatDoor
open Go.RowKit
set_option linter.unusedSimpArgs false
set_option linter.unusedVariables false

/-- Two variables with rationals and an empty one. -/
def TwoQ (w : World) (B1 B2 G : Nat) (q r : Rat) (wx : World) : Prop :=
  BkQ w B1 q wx ∧ BkQ w B2 r wx ∧ Bk w G (.bool false) (.slice none 0 0) (.slice none 0 0) wx

theorem two_put {w W : World} {B1 B2 G : Nat} {q r : Rat} {b1 b2 : Bool} {a1 a2 a3 a4 : Option Addr} {n1 n2 n3 n4 k1 k2 k3 k4 : Nat} (h1 : Bk w B1 (.bool b1) (.slice a1 n1 k1) (.slice a2 n2 k2) W) (h2 : Bk w B2 (.bool b2) (.slice a3 n3 k3) (.slice a4 n4 k4) W)
    (hG : Bk w G (.bool false) (.slice none 0 0) (.slice none 0 0) W) {s t : Bool} {ao bo co eo : Option Addr} {n cap m cap' n' cap2 m' cap3 : Nat} (C1 : RatC W (.agg #[.bool s, .slice ao n cap, .slice bo m cap']) q) (C2 : RatC W (.agg #[.bool t, .slice co n' cap2, .slice eo m' cap3]) r)
    (d12 : B1 ≠ B2) (dG1 : G ≠ B1) (dG2 : G ≠ B2) :
    TwoQ w B1 B2 G q r ((((((W.setCell ⟨B1, 0, none⟩ (.bool s)).setCell ⟨B1, 1, none⟩ (.slice ao n cap)).setCell ⟨B1, 2, none⟩ (.slice bo m cap')).setCell ⟨B2, 0, none⟩ (.bool t)).setCell ⟨B2, 1, none⟩ (.slice co n' cap2)).setCell ⟨B2, 2, none⟩ (.slice eo m' cap3)) := by
  have p1 := h1.put (.bool s) (.slice ao n cap) (.slice bo m cap')
  have p2 := h2.other d12 h1.ge (.bool s) (.slice ao n cap) (.slice bo m cap')
  have pG := hG.other dG1.symm h1.ge (.bool s) (.slice ao n cap) (.slice bo m cap')
  have c1 := C1.putOther h1.res (.bool s) (.slice ao n cap) (.slice bo m cap')
  have c2 := C2.putOther h1.res (.bool s) (.slice ao n cap) (.slice bo m cap')
  exact ⟨⟨_, _, _, _, _, _, _, p1.other d12.symm p2.ge _ _ _, c1.putOther p2.res _ _ _⟩, ⟨_, _, _, _, _, _, _, p2.put _ _ _, c2.putOther p2.res _ _ _⟩, pG.other dG2.symm p2.ge _ _ _⟩

/-- One cell is stored to. -/
theorem Bk.put0 {w w' : World} {G : Nat} {x y z : Value} (h : Bk w G x y z w') (x' : Value) : Bk w G x' y z (w'.setCell ⟨G, 0, none⟩ x') := by
  obtain ⟨T, hT⟩ := h.heap
  exact ⟨⟨T, heap_setCell_same w' G 0 _ T x' hT⟩, h.ge, h.bel.setCell h.ge _⟩
theorem Bk.other0 {w w' : World} {G g : Nat} {x y z : Value} (h : Bk w G x y z w') (hg : g ≠ G) (hw : w.heap.size ≤ g) (i : Nat) (x' : Value) : Bk w G x y z (w'.setCell ⟨g, i, none⟩ x') := by
  obtain ⟨T, hT⟩ := h.heap
  exact ⟨⟨T, by rw [Below.heap_setCell _ _ _ _ (show G ≠ g from fun e => hg e.symm)]; exact hT⟩, h.ge, h.bel.setCell hw _⟩
theorem RatC.other0 {w w' : World} {G : Nat} {q : Rat} {v : Value} {b0 : Bool} {a1 a2 : Option Addr} {n1 n2 k1 k2 : Nat} (hr : Res w G b0 a1 n1 k1 a2 n2 k2 w') (C : RatC w' v q) (i : Nat) (x : Value) : RatC (w'.setCell ⟨G, i, none⟩ x) v q := by
  obtain ⟨ao', bo', n', cap1, m', cap2, rfl, s1, s2, hz, hz'⟩ := C
  exact ⟨_, _, _, _, _, _, rfl, s1.setCell (hr.off s1) _ _, s2.setCell (hr.off s2) _ _, hz, hz'⟩

theorem RatC.parts {w : World} {q : Rat} {s : Bool} {ao bo : Option Addr} {n cap m cap' : Nat} (h : RatC w (.agg #[.bool s, .slice ao n cap, .slice bo m cap']) q) :
    s = decide (q.num < 0) ∧ Sl w ao n cap (u32s (dig q.num.natAbs)) ∧ Sl w bo m cap' (u32s (denL q)) ∧ (ao = none → cap = 0) ∧ (bo = none → cap' = 0) := by
  obtain ⟨ao', bo', n', cap1, m', cap2, hv, h⟩ := h
  injection hv with hv
  injection hv with hv
  injection hv with e1 hv
  injection hv with e2 hv
  injection hv with e3 _
  injection e1 with e0
  injection e2 with e4 e5 e6
  injection e3 with e7 e8 e9
  subst e4 e5 e6 e7 e8 e9
  exact ⟨e0, h⟩

set_option maxHeartbeats 1000000 in
theorem rSign_any (q : Rat) (v : Value) (w : World) (h : RatV w v q) :
    Calls Tryz.prog 50 #[v] w fun e w' => e = .returned (.int .i64 (rsg q)) ∧ Below w.heap.size w w' := by
  obtain ⟨s, ao, n, cap, bo, m, cap', rfl⟩ := h.shape
  have hB := Bk.start (Below.refl w.heap.size w) rfl (.bool s) (.slice ao n cap) (.slice bo m cap') 25
  go_enter Tryz.func50, Tryz.ntmps50
  go_wp2_with fail
  refine (rTake_any q _ _ (h.next hB.bel)).mono ?_; rintro e w1 ⟨v1, rfl, C1, hb1⟩
  obtain ⟨rb, ro, rn, rc, so, sn, sc, rfl⟩ := C1.shape
  obtain ⟨rfl, sf, _, _, _⟩ := C1.parts
  have hB1 := hB.next hb1
  have hbel := (hB1.put (.bool (decide (q.num < 0))) (.slice ro rn rc) (.slice so sn sc)).bel
  obtain ⟨d0, d1, d2⟩ := hB1.c3
  have f0 := hB1.free 0
  have f1 := hB1.free 1
  have f2 := hB1.free 2
  have hl := sf.lenU
  rcases Int.lt_trichotomy q.num 0 with hlt | heq | hgt
  · have hr : rsg q = -1 := by unfold rsg sg; rw [if_pos hlt]
    have hd : decide (q.num < 0) = true := decide_eq_true hlt
    rw [hd] at hbel ⊢
    have Hr := hid hr
    clear hr hd hlt hl C1 sf
    go_wp2_with fail
    go_ret
    exact ⟨retI Hr.out.symm, hbel⟩
  · have hr : rsg q = 0 := by unfold rsg sg; rw [heq]; rfl
    have hd : decide (q.num < 0) = false := by rw [heq]; rfl
    rw [heq, show Int.natAbs 0 = 0 from rfl, dig_zero] at hl
    have hf : rn = 0 := by simpa using hl.symm
    subst hf
    rw [hd] at hbel ⊢
    have Hr := hid hr
    clear hr hd heq hl C1 sf
    go_wp2_with fail
    go_ret
    exact ⟨retI Hr.out.symm, hbel⟩
  · have hr : rsg q = 1 := by unfold rsg sg; rw [if_neg (by omega), if_neg (by omega)]
    have hd : decide (q.num < 0) = false := decide_eq_false (by omega)
    have hf : 1 ≤ rn := by
      cases rn with
      | zero => exact absurd (List.eq_nil_of_length_eq_zero hl) (fun h => by have := dig_nil.1 h; omega)
      | succ n => omega
    rw [hd] at hbel ⊢
    have Hr := hid hr
    clear hr hd hgt hl C1 sf
    go_wp2_with fail
    go_ret
    exact ⟨retI Hr.out.symm, hbel⟩

theorem ratC_neg {w : World} {q : Rat} {s t : Bool} {ao bo : Option Addr} {n cap m cap' : Nat} (h : RatC w (.agg #[.bool s, .slice ao n cap, .slice bo m cap']) q) (ht : t = (decide (0 < n) && !s)) : RatC w (.agg #[.bool t, .slice ao n cap, .slice bo m cap']) (-q) := by
  obtain ⟨rfl, h1, h2, hz, hz'⟩ := h.parts
  have hl := h1.lenU
  refine ⟨ao, bo, n, cap, m, cap', ?_, by rw [Rat.neg_num, Int.natAbs_neg]; exact h1, by unfold denL at h2 ⊢; rw [Rat.neg_den]; exact h2, hz, hz'⟩
  have : t = decide ((-q).num < 0) := by
    rw [ht, Rat.neg_num]
    rcases Int.lt_trichotomy q.num 0 with hlt | heq | hgt
    · simp [hlt]; omega
    · rw [heq, show Int.natAbs 0 = 0 from rfl, dig_zero] at hl
      have : n = 0 := by simpa using hl.symm
      simp [this, heq]
    · have hn : 0 < n := by
        cases n with
        | zero => exact absurd (List.eq_nil_of_length_eq_zero hl) (fun h => by have := dig_nil.1 h; omega)
        | succ n => omega
      have h1 : ¬ q.num < 0 := by omega
      have h2 : -q.num < 0 := by omega
      simp [hn, h1, h2, hgt]
  rw [this]

set_option maxHeartbeats 1000000 in
theorem rNeg_any (q : Rat) (v : Value) (w : World) (h : RatV w v q) : Calls Tryz.prog 70 #[v] w (RatOut w (-q)) := by
  obtain ⟨s, ao, n, cap, bo, m, cap', rfl⟩ := h.shape
  have hB := (Bk.start (Below.refl w.heap.size w) rfl (.bool s) (.slice ao n cap) (.slice bo m cap') 25).new (.cells #[.bool false, .slice none 0 0, .slice none 0 0] 25)
  have hG : Bk w (w.heap.size + 1) (.bool false) (.slice none 0 0) (.slice none 0 0) ((w.alloc (.cells #[.bool s, .slice ao n cap, .slice bo m cap'] 25)).alloc (.cells #[.bool false, .slice none 0 0, .slice none 0 0] 25)) := Bk.start (below_alloc _) (by simp) _ _ _ _
  go_enter Tryz.func70, Tryz.ntmps70
  go_wp2_with fail
  refine (rTake_any q _ _ (h.next hB.bel)).mono ?_; rintro e w1 ⟨v1, rfl, C1, hb1⟩
  obtain ⟨rb, ro, rn, rc, so, sn, sc, rfl⟩ := C1.shape
  have hB1 := hB.next hb1
  have hG1 := hG.next hb1
  have c1 := C1.putOther hB1.res (.bool rb) (.slice ro rn rc) (.slice so sn sc)
  have b1 := hB1.put (.bool rb) (.slice ro rn rc) (.slice so sn sc)
  have g1 := hG1.other (by omega) hB1.ge (.bool rb) (.slice ro rn rc) (.slice so sn sc)
  obtain ⟨d0, d1, d2⟩ := hB1.c3
  have f0 := hB1.free 0
  have f1 := hB1.free 1
  have f2 := hB1.free 2
  obtain ⟨e0, e1, e2⟩ := hG1.c3
  have k0 := hG1.free 0
  have k1 := hG1.free 1
  have k2 := hG1.free 2
  clear hB hG hB1 hG1
  by_cases hn : 0 < rn
  · have hneg := ratC_neg (t := !rb) c1 (by simp [hn])
    clear C1 c1
    go_wp2_with fail
    refine bodyPost_ret (v := .agg #[.bool (!rb), .slice ro rn rc, .slice so sn sc]) (by simp [results, Tryz.results70, go_sem, d0, d1, d2, e0, e1, e2]) rfl ?_
    exact (g1.other0 (by omega) b1.ge 0 _).res.rc (hneg.other0 b1.res 0 _)
  · obtain rfl : rn = 0 := by omega
    have hneg := ratC_neg (t := false) c1 (by simp)
    clear C1 c1
    go_wp2_with fail
    refine bodyPost_ret (v := .agg #[.bool false, .slice ro 0 rc, .slice so sn sc]) (by simp [results, Tryz.results70, go_sem, d0, d1, d2, e0, e1, e2]) rfl ?_
    exact (g1.other0 (by omega) b1.ge 0 _).res.rc (hneg.other0 b1.res 0 _)

end Go.Proofs.YtgohfieleckmgaaGreatDoor

/-
  The contracts of the reference's Mul and Quo. Conditions: sizes; the divisor is not 0.
-/
namespace Go.Proofs.YtgohfieleckmgaaGreatDoor
open Go.RowKit
set_option linter.unusedSimpArgs false
set_option linter.unusedVariables false

set_option maxHeartbeats 4000000 in
theorem rMul_any (q r : Rat) (v v2 : Value) (w : World) (h : RatV w v q) (h' : RatV w v2 r) (k : Nat) (hq : Fit k q) (hr' : Fit k r) (hk : k ≤ 4294967296) :
    Calls Tryz.prog 41 #[v, v2] w (RatOut w (q * r)) := by
  obtain ⟨s, ao, n, cap, bo, m, cap', rfl⟩ := h.shape
  obtain ⟨t, co, n2, cap2, eo, m2, cap3, rfl⟩ := h'.shape
  have hB1 : Bk w w.heap.size (.bool s) (.slice ao n cap) (.slice bo m cap') (((w.alloc (.cells #[.bool s, .slice ao n cap, .slice bo m cap'] 25)).alloc (.cells #[.bool t, .slice co n2 cap2, .slice eo m2 cap3] 25)).alloc (.cells #[.bool false, .slice none 0 0, .slice none 0 0] 25)) := ((Bk.start (Below.refl _ _) rfl _ _ _ _).new _).new _
  have hB2 : Bk w (w.heap.size + 1) (.bool t) (.slice co n2 cap2) (.slice eo m2 cap3) (((w.alloc (.cells #[.bool s, .slice ao n cap, .slice bo m cap'] 25)).alloc (.cells #[.bool t, .slice co n2 cap2, .slice eo m2 cap3] 25)).alloc (.cells #[.bool false, .slice none 0 0, .slice none 0 0] 25)) := (Bk.start (below_alloc _) (by simp) _ _ _ _).new _
  have hG : Bk w (w.heap.size + 1 + 1) (.bool false) (.slice none 0 0) (.slice none 0 0) (((w.alloc (.cells #[.bool s, .slice ao n cap, .slice bo m cap'] 25)).alloc (.cells #[.bool t, .slice co n2 cap2, .slice eo m2 cap3] 25)).alloc (.cells #[.bool false, .slice none 0 0, .slice none 0 0] 25)) := Bk.start (below_new (below_alloc _) _) (by simp) _ _ _ _
  go_enter Tryz.func41, Tryz.ntmps41
  go_upto_region 1 with fail
  go_cut [] (fun wx => TwoQ w w.heap.size (w.heap.size + 1) (w.heap.size + 1 + 1) q r wx)
  case first =>
    generalize ((w.alloc (.cells #[.bool s, .slice ao n cap, .slice bo m cap'] 25)).alloc (.cells #[.bool t, .slice co n2 cap2, .slice eo m2 cap3] 25)).alloc (.cells #[.bool false, .slice none 0 0, .slice none 0 0] 25) = W at *
    obtain ⟨a0, a1, a2⟩ := hB1.c3
    obtain ⟨b0, b1, b2⟩ := hB2.c3
    go_region_with ((first
      | (go_at_call_of 75 (Value.agg #[Value.bool s, Value.slice ao n cap, Value.slice bo m cap']); refine (rTake_any q _ _ (h.next hB1.bel.drew)).mono ?_; rintro e w1 ⟨v1, rfl, C1, hb1⟩; obtain ⟨xs, xo, xn, xc, yo, yn, yc, rfl⟩ := C1.shape; obtain ⟨c0, c1, c2⟩ := (hB2.drew.next hb1).c3)
      | (go_at_call_of 75 (Value.agg #[Value.bool t, Value.slice co n2 cap2, Value.slice eo m2 cap3]); refine (rTake_any r _ _ (h'.next (below_chain hB1.bel.drew hb1))).mono ?_; rintro e w2 ⟨v2, rfl, C2, hb2⟩; obtain ⟨ys, zo, zn, zc, uo, un, uc, rfl⟩ := C2.shape; have k1 := (hB1.drew.next hb1).next hb2; have k2 := (hB2.drew.next hb1).next hb2; have kG := (hG.drew.next hb1).next hb2; obtain ⟨c0, c1, c2⟩ := k1.c3; obtain ⟨d0, d1, d2⟩ := k2.c3; have f0 := k1.free 0; have f1 := k1.free 1; have f2 := k1.free 2; have g0 := k2.free 0; have g1 := k2.free 1; have g2 := k2.free 2)))
    all_goals
      go_wp2_with fail
      go_meet
      exact two_put k1 k2 kG (C1.next hb2) C2 (by omega) (by omega) (by omega)
  case rest =>
    clear hB1 hB2 hG h h'
    obtain ⟨⟨xs, xo, xn, xc, yo, yn, yc, k1, C1⟩, ⟨ys, zo, zn, zc, uo, un, uc, k2, C2⟩, kG⟩ := hcut
    obtain ⟨e1, sX, sY, zX, zY⟩ := C1.parts
    obtain ⟨e2, sZ, sU, zZ, zU⟩ := C2.parts
    have hd := (Below.refl wc.heap.size wc).drew
    have hxn : xn ≤ 4294967296 := by rw [← sX.lenU]; exact Nat.le_trans hq.1 hk
    have hzn : zn ≤ 4294967296 := by rw [← sZ.lenU]; exact Nat.le_trans hr'.1 hk
    have S1 := k1.c3; have S2 := k2.c3
    have hlq : lim q.den ≤ 4294967296 := Nat.le_trans hq.2 hk
    have hlr : lim r.den ≤ 4294967296 := Nat.le_trans hr'.2 hk
    have hA' : lim (q.num.natAbs * r.num.natAbs) ≤ 17179869184 := Nat.le_trans (lim_mul _ _) (Nat.le_trans (Nat.add_le_add hq.1 hr'.1) (by omega))
    have hB' : lim (q.den * r.den) ≤ 17179869184 := Nat.le_trans (lim_mul _ _) (Nat.le_trans (Nat.add_le_add hq.2 hr'.2) (by omega))
    have hn0 : q.den * r.den ≠ 0 := Nat.mul_ne_zero q.den_nz r.den_nz
    have hrat : Hid (mkRat (sgn (decide (q.num < 0) != decide (r.num < 0)) (q.num.natAbs * r.num.natAbs)) (q.den * r.den) = q * r) := hid (by rw [sgn_xor, sgn_num, sgn_num, ← Rat.mul_def'])
    rw [← e1, ← e2] at hrat
    have hS0 : C3 w.heap.size (.bool xs) (.slice xo xn xc) (.slice yo yn yc) wc.drew ∧ C3 (w.heap.size + 1) (.bool ys) (.slice zo zn zc) (.slice uo un uc) wc.drew := ⟨S1.next hd, S2.next hd⟩
    clear S1 S2 e1 e2 
    have hK : ∀ w' w'', (C3 w.heap.size (.bool xs) (.slice xo xn xc) (.slice yo yn yc) w' ∧ C3 (w.heap.size + 1) (.bool ys) (.slice zo zn zc) (.slice uo un uc) w') → Below w'.heap.size w' w'' → (C3 w.heap.size (.bool xs) (.slice xo xn xc) (.slice yo yn yc) w'' ∧ C3 (w.heap.size + 1) (.bool ys) (.slice zo zn zc) (.slice uo un uc) w'') := fun w' w'' h hb => ⟨h.1.next hb, h.2.next hb⟩
    have hSt : ∀ w' (x y z : Value), (C3 w.heap.size (.bool xs) (.slice xo xn xc) (.slice yo yn yc) w' ∧ C3 (w.heap.size + 1) (.bool ys) (.slice zo zn zc) (.slice uo un uc) w') → (C3 w.heap.size (.bool xs) (.slice xo xn xc) (.slice yo yn yc) (((w'.setCell ⟨w.heap.size + 1 + 1, 0, none⟩ x).setCell ⟨w.heap.size + 1 + 1, 1, none⟩ y).setCell ⟨w.heap.size + 1 + 1, 2, none⟩ z) ∧ C3 (w.heap.size + 1) (.bool ys) (.slice zo zn zc) (.slice uo un uc) (((w'.setCell ⟨w.heap.size + 1 + 1, 0, none⟩ x).setCell ⟨w.heap.size + 1 + 1, 1, none⟩ y).setCell ⟨w.heap.size + 1 + 1, 2, none⟩ z)) := fun w' x y z h => ⟨h.1.set3 (by omega) _ _ _, h.2.set3 (by omega) _ _ _⟩
    go_wp2_with fail
    go_region_held3 (fun w' => C3 w.heap.size (.bool xs) (.slice xo xn xc) (.slice yo yn yc) w' ∧ C3 (w.heap.size + 1) (.bool ys) (.slice zo zn zc) (.slice uo un uc) w')
      (repeat (first | with_reducible assumption | with_reducible exact hSt _ _ _ _ (by assumption) | with_reducible refine hK _ _ ?_ hb3 | with_reducible refine hK _ _ ?_ hb4 | with_reducible refine hK _ _ ?_ hb5 | with_reducible refine hK _ _ ?_ hb6 | with_reducible refine hK _ _ ?_ hb9))
      (first
        | (go_at_call_of 76 (Value.slice xo xn xc); refine (rtimesD q.num.natAbs r.num.natAbs (sX.next hd) (sZ.next hd) (by omega) (by omega)).mono ?_; rintro e w3 ⟨po, pn, pc, rfl, sP, hzp, hb3, _⟩)
        | (go_at_call_of 77 (Value.agg #[Value.bool xs, Value.slice xo xn xc, Value.slice yo yn yc]); refine (den_any q _ _ ((C1.next hd).next hb3)).mono ?_; rintro e w4 ⟨do1, dn1, dc1, rfl, sD1, hz1, hb4⟩; have hdn1 : dn1 ≤ 4294967296 := by rw [← sD1.lenU]; exact hlq)
        | (go_at_call_of 77 (Value.agg #[Value.bool ys, Value.slice zo zn zc, Value.slice uo un uc]); refine (den_any r _ _ (((C2.next hd).next hb3).next hb4)).mono ?_; rintro e w5 ⟨do2, dn2, dc2, rfl, sD2, hz2, hb5⟩; have hdn2 : dn2 ≤ 4294967296 := by rw [← sD2.lenU]; exact hlr)
        | (go_at_call_of 76 (Value.slice do1 dn1 dc1); refine (rtimesD q.den r.den (sD1.next hb5) sD2 (by omega) (by omega)).mono ?_; rintro e w6 ⟨qo, qn, qc, rfl, sQ, hzq, hb6, _⟩; have sP6 := ((sP.next hb4).next hb5).next hb6)
        | (go_at_call 78; have hpn : pn ≤ 17179869184 := by rw [← sP6.lenU]; exact hA'
           have hqn : qn ≤ 17179869184 := by rw [← sQ.lenU]; exact hB'
           refine (rover_any _ (q.num.natAbs * r.num.natAbs) (q.den * r.den) hn0 _ _ _ _ _ _ _ sP6 sQ hzp hzq hpn hqn).mono ?_; rintro e w9 ⟨v9, rfl, C9, hb9⟩; obtain ⟨rb, ro, rn, rc, so, sn, sc, rfl⟩ := C9.shape; have hG9 := ((((kG.drew.next hb3).next hb4).next hb5).next hb6).next hb9; obtain ⟨d0, d1, d2⟩ := hG9.c3; have f0 := hG9.free 0; have f1 := hG9.free 1; have f2 := hG9.free 2))
    go_wp2_with fail
    refine bodyPost_ret (v := .agg #[.bool rb, .slice ro rn rc, .slice so sn sc]) (by simp [results, Tryz.results41, go_sem, d0, d1, d2]) rfl ?_
    have := ((((((kG.drew.next hb3).next hb4).next hb5).next hb6).next hb9)).res.rc C9
    rw [show (!(xs == ys)) = (xs != ys) from rfl, hrat.out] at this
    exact this

set_option maxHeartbeats 4000000 in
theorem rQuo_any (q r : Rat) (hr0 : r ≠ 0) (v v2 : Value) (w : World) (h : RatV w v q) (h' : RatV w v2 r) (k : Nat) (hq : Fit k q) (hr' : Fit k r) (hk : k ≤ 4294967296) :
    Calls Tryz.prog 68 #[v, v2] w (RatOut w (q / r)) := by
  have hrn : r.num.natAbs ≠ 0 := fun h => hr0 (Rat.num_eq_zero.1 (Int.natAbs_eq_zero.1 h))
  obtain ⟨s, ao, n, cap, bo, m, cap', rfl⟩ := h.shape
  obtain ⟨t, co, n2, cap2, eo, m2, cap3, rfl⟩ := h'.shape
  have hB1 : Bk w w.heap.size (.bool s) (.slice ao n cap) (.slice bo m cap') (((w.alloc (.cells #[.bool s, .slice ao n cap, .slice bo m cap'] 25)).alloc (.cells #[.bool t, .slice co n2 cap2, .slice eo m2 cap3] 25)).alloc (.cells #[.bool false, .slice none 0 0, .slice none 0 0] 25)) := ((Bk.start (Below.refl _ _) rfl _ _ _ _).new _).new _
  have hB2 : Bk w (w.heap.size + 1) (.bool t) (.slice co n2 cap2) (.slice eo m2 cap3) (((w.alloc (.cells #[.bool s, .slice ao n cap, .slice bo m cap'] 25)).alloc (.cells #[.bool t, .slice co n2 cap2, .slice eo m2 cap3] 25)).alloc (.cells #[.bool false, .slice none 0 0, .slice none 0 0] 25)) := (Bk.start (below_alloc _) (by simp) _ _ _ _).new _
  have hG : Bk w (w.heap.size + 1 + 1) (.bool false) (.slice none 0 0) (.slice none 0 0) (((w.alloc (.cells #[.bool s, .slice ao n cap, .slice bo m cap'] 25)).alloc (.cells #[.bool t, .slice co n2 cap2, .slice eo m2 cap3] 25)).alloc (.cells #[.bool false, .slice none 0 0, .slice none 0 0] 25)) := Bk.start (below_new (below_alloc _) _) (by simp) _ _ _ _
  go_enter Tryz.func68, Tryz.ntmps68
  go_upto_region 1 with fail
  go_cut [] (fun wx => TwoQ w w.heap.size (w.heap.size + 1) (w.heap.size + 1 + 1) q r wx)
  case first =>
    generalize ((w.alloc (.cells #[.bool s, .slice ao n cap, .slice bo m cap'] 25)).alloc (.cells #[.bool t, .slice co n2 cap2, .slice eo m2 cap3] 25)).alloc (.cells #[.bool false, .slice none 0 0, .slice none 0 0] 25) = W at *
    obtain ⟨a0, a1, a2⟩ := hB1.c3
    obtain ⟨b0, b1, b2⟩ := hB2.c3
    go_region_with ((first
      | (go_at_call_of 75 (Value.agg #[Value.bool s, Value.slice ao n cap, Value.slice bo m cap']); refine (rTake_any q _ _ (h.next hB1.bel.drew)).mono ?_; rintro e w1 ⟨v1, rfl, C1, hb1⟩; obtain ⟨xs, xo, xn, xc, yo, yn, yc, rfl⟩ := C1.shape; obtain ⟨c0, c1, c2⟩ := (hB2.drew.next hb1).c3)
      | (go_at_call_of 75 (Value.agg #[Value.bool t, Value.slice co n2 cap2, Value.slice eo m2 cap3]); refine (rTake_any r _ _ (h'.next (below_chain hB1.bel.drew hb1))).mono ?_; rintro e w2 ⟨v2, rfl, C2, hb2⟩; obtain ⟨ys, zo, zn, zc, uo, un, uc, rfl⟩ := C2.shape; have k1 := (hB1.drew.next hb1).next hb2; have k2 := (hB2.drew.next hb1).next hb2; have kG := (hG.drew.next hb1).next hb2; obtain ⟨c0, c1, c2⟩ := k1.c3; obtain ⟨d0, d1, d2⟩ := k2.c3; have f0 := k1.free 0; have f1 := k1.free 1; have f2 := k1.free 2; have g0 := k2.free 0; have g1 := k2.free 1; have g2 := k2.free 2)))
    all_goals
      go_wp2_with fail
      go_meet
      exact two_put k1 k2 kG (C1.next hb2) C2 (by omega) (by omega) (by omega)
  case rest =>
    clear hB1 hB2 hG h h'
    obtain ⟨⟨xs, xo, xn, xc, yo, yn, yc, k1, C1⟩, ⟨ys, zo, zn, zc, uo, un, uc, k2, C2⟩, kG⟩ := hcut
    obtain ⟨e1, sX, sY, zX, zY⟩ := C1.parts
    obtain ⟨e2, sZ, sU, zZ, zU⟩ := C2.parts
    have hd := (Below.refl wc.heap.size wc).drew
    have hxn : xn ≤ 4294967296 := by rw [← sX.lenU]; exact Nat.le_trans hq.1 hk
    have hzn : zn ≤ 4294967296 := by rw [← sZ.lenU]; exact Nat.le_trans hr'.1 hk
    have S1 := k1.c3; have S2 := k2.c3
    have hlq : lim q.den ≤ 4294967296 := Nat.le_trans hq.2 hk
    have hlr : lim r.den ≤ 4294967296 := Nat.le_trans hr'.2 hk
    have hA' : lim (q.num.natAbs * r.den) ≤ 17179869184 := Nat.le_trans (lim_mul _ _) (Nat.le_trans (Nat.add_le_add hq.1 hr'.2) (by omega))
    have hB' : lim (q.den * r.num.natAbs) ≤ 17179869184 := Nat.le_trans (lim_mul _ _) (Nat.le_trans (Nat.add_le_add hq.2 hr'.1) (by omega))
    have hn0 : q.den * r.num.natAbs ≠ 0 := Nat.mul_ne_zero q.den_nz hrn
    have hrat : Hid (mkRat (sgn (decide (q.num < 0) != decide (r.num < 0)) (q.num.natAbs * r.den)) (q.den * r.num.natAbs) = q / r) := hid (by exact div_core q r)
    rw [← e1, ← e2] at hrat
    have hS0 : C3 w.heap.size (.bool xs) (.slice xo xn xc) (.slice yo yn yc) wc.drew ∧ C3 (w.heap.size + 1) (.bool ys) (.slice zo zn zc) (.slice uo un uc) wc.drew := ⟨S1.next hd, S2.next hd⟩
    clear S1 S2 e1 e2 hr0
    have hK : ∀ w' w'', (C3 w.heap.size (.bool xs) (.slice xo xn xc) (.slice yo yn yc) w' ∧ C3 (w.heap.size + 1) (.bool ys) (.slice zo zn zc) (.slice uo un uc) w') → Below w'.heap.size w' w'' → (C3 w.heap.size (.bool xs) (.slice xo xn xc) (.slice yo yn yc) w'' ∧ C3 (w.heap.size + 1) (.bool ys) (.slice zo zn zc) (.slice uo un uc) w'') := fun w' w'' h hb => ⟨h.1.next hb, h.2.next hb⟩
    have hSt : ∀ w' (x y z : Value), (C3 w.heap.size (.bool xs) (.slice xo xn xc) (.slice yo yn yc) w' ∧ C3 (w.heap.size + 1) (.bool ys) (.slice zo zn zc) (.slice uo un uc) w') → (C3 w.heap.size (.bool xs) (.slice xo xn xc) (.slice yo yn yc) (((w'.setCell ⟨w.heap.size + 1 + 1, 0, none⟩ x).setCell ⟨w.heap.size + 1 + 1, 1, none⟩ y).setCell ⟨w.heap.size + 1 + 1, 2, none⟩ z) ∧ C3 (w.heap.size + 1) (.bool ys) (.slice zo zn zc) (.slice uo un uc) (((w'.setCell ⟨w.heap.size + 1 + 1, 0, none⟩ x).setCell ⟨w.heap.size + 1 + 1, 1, none⟩ y).setCell ⟨w.heap.size + 1 + 1, 2, none⟩ z)) := fun w' x y z h => ⟨h.1.set3 (by omega) _ _ _, h.2.set3 (by omega) _ _ _⟩
    go_wp2_with fail
    go_region_held3 (fun w' => C3 w.heap.size (.bool xs) (.slice xo xn xc) (.slice yo yn yc) w' ∧ C3 (w.heap.size + 1) (.bool ys) (.slice zo zn zc) (.slice uo un uc) w')
      (repeat (first | with_reducible assumption | with_reducible exact hSt _ _ _ _ (by assumption) | with_reducible refine hK _ _ ?_ hb3 | with_reducible refine hK _ _ ?_ hb4 | with_reducible refine hK _ _ ?_ hb5 | with_reducible refine hK _ _ ?_ hb6 | with_reducible refine hK _ _ ?_ hb9))
      (first
        | (go_at_call_of 77 (Value.agg #[Value.bool ys, Value.slice zo zn zc, Value.slice uo un uc]); refine (den_any r _ _ (C2.next hd)).mono ?_; rintro e w3 ⟨do2, dn2, dc2, rfl, sD2, hz2, hb3⟩; have hdn2 : dn2 ≤ 4294967296 := by rw [← sD2.lenU]; exact hlr)
        | (go_at_call_of 76 (Value.slice xo xn xc); refine (rtimesD q.num.natAbs r.den ((sX.next hd).next hb3) sD2 (by omega) (by omega)).mono ?_; rintro e w4 ⟨po, pn, pc, rfl, sP, hzp, hb4, _⟩)
        | (go_at_call_of 77 (Value.agg #[Value.bool xs, Value.slice xo xn xc, Value.slice yo yn yc]); refine (den_any q _ _ (((C1.next hd).next hb3).next hb4)).mono ?_; rintro e w5 ⟨do1, dn1, dc1, rfl, sD1, hz1, hb5⟩; have hdn1 : dn1 ≤ 4294967296 := by rw [← sD1.lenU]; exact hlq)
        | (go_at_call_of 76 (Value.slice do1 dn1 dc1); refine (rtimesD q.den r.num.natAbs sD1 ((((sZ.next hd).next hb3).next hb4).next hb5) (by omega) (by omega)).mono ?_; rintro e w6 ⟨qo, qn, qc, rfl, sQ, hzq, hb6, _⟩; have sP6 := (sP.next hb5).next hb6)
        | (go_at_call 78; have hpn : pn ≤ 17179869184 := by rw [← sP6.lenU]; exact hA'
           have hqn : qn ≤ 17179869184 := by rw [← sQ.lenU]; exact hB'
           refine (rover_any _ (q.num.natAbs * r.den) (q.den * r.num.natAbs) hn0 _ _ _ _ _ _ _ sP6 sQ hzp hzq hpn hqn).mono ?_; rintro e w9 ⟨v9, rfl, C9, hb9⟩; obtain ⟨rb, ro, rn, rc, so, sn, sc, rfl⟩ := C9.shape; have hG9 := ((((kG.drew.next hb3).next hb4).next hb5).next hb6).next hb9; obtain ⟨d0, d1, d2⟩ := hG9.c3; have f0 := hG9.free 0; have f1 := hG9.free 1; have f2 := hG9.free 2))
    go_wp2_with fail
    refine bodyPost_ret (v := .agg #[.bool rb, .slice ro rn rc, .slice so sn sc]) (by simp [results, Tryz.results68, go_sem, d0, d1, d2]) rfl ?_
    have := ((((((kG.drew.next hb3).next hb4).next hb5).next hb6).next hb9)).res.rc C9
    rw [show (!(xs == ys)) = (xs != ys) from rfl, hrat.out] at this
    exact this

end Go.Proofs.YtgohfieleckmgaaGreatDoor

/-
  The contract of the reference's Add. No condition but sizes.
-/
namespace Go.Proofs.YtgohfieleckmgaaGreatDoor
open Go.RowKit
set_option linter.unusedSimpArgs false
set_option linter.unusedVariables false

theorem sgn_mul (s : Bool) (a b : Nat) : sgn s (a * b) = sgn s a * (b : Int) := by cases s <;> simp [sgn, Int.neg_mul]
theorem sgn_add (s : Bool) (a b : Nat) : sgn s (a + b) = sgn s a + sgn s b := by cases s <;> simp [sgn] <;> omega
theorem sgn_subx (s : Bool) {a b : Nat} (h : b ≤ a) : sgn s (a - b) = sgn s a + sgn (!s) b := by cases s <;> simp [sgn] <;> omega
theorem sgn_suby (s : Bool) {a b : Nat} (h : a ≤ b) : sgn (!s) (b - a) = sgn s a + sgn (!s) b := by cases s <;> simp [sgn] <;> omega

/-- Three numbers in slots. -/
def ThreeN (X Y Z : Nat) (p5 p6 p7 : Value) (w : World) : Prop :=
  ∃ (po : Option Addr) (pn pc : Nat) (ho : Option Addr) (hn hc : Nat) (qo : Option Addr) (qn qc : Nat), p5 = .slice po pn pc ∧ p6 = .slice ho hn hc ∧ p7 = .slice qo qn qc ∧
    Sl w po pn pc (u32s (dig X)) ∧ Sl w ho hn hc (u32s (dig Y)) ∧ Sl w qo qn qc (u32s (dig Z)) ∧ (po = none → pc = 0) ∧ (ho = none → hc = 0) ∧ (qo = none → qc = 0)

set_option maxHeartbeats 8000000 in
theorem rAdd_any (q r : Rat) (v v2 : Value) (w : World) (h : RatV w v q) (h' : RatV w v2 r) (k : Nat) (hq : Fit k q) (hr' : Fit k r) (hk : k ≤ 4294967296) :
    Calls Tryz.prog 39 #[v, v2] w (RatOut w (q + r)) := by
  obtain ⟨s, ao, n, cap, bo, m, cap', rfl⟩ := h.shape
  obtain ⟨t, co, n2, cap2, eo, m2, cap3, rfl⟩ := h'.shape
  have hB1 : Bk w w.heap.size (.bool s) (.slice ao n cap) (.slice bo m cap') (((w.alloc (.cells #[.bool s, .slice ao n cap, .slice bo m cap'] 25)).alloc (.cells #[.bool t, .slice co n2 cap2, .slice eo m2 cap3] 25)).alloc (.cells #[.bool false, .slice none 0 0, .slice none 0 0] 25)) := ((Bk.start (Below.refl _ _) rfl _ _ _ _).new _).new _
  have hB2 : Bk w (w.heap.size + 1) (.bool t) (.slice co n2 cap2) (.slice eo m2 cap3) (((w.alloc (.cells #[.bool s, .slice ao n cap, .slice bo m cap'] 25)).alloc (.cells #[.bool t, .slice co n2 cap2, .slice eo m2 cap3] 25)).alloc (.cells #[.bool false, .slice none 0 0, .slice none 0 0] 25)) := (Bk.start (below_alloc _) (by simp) _ _ _ _).new _
  have hG : Bk w (w.heap.size + 1 + 1) (.bool false) (.slice none 0 0) (.slice none 0 0) (((w.alloc (.cells #[.bool s, .slice ao n cap, .slice bo m cap'] 25)).alloc (.cells #[.bool t, .slice co n2 cap2, .slice eo m2 cap3] 25)).alloc (.cells #[.bool false, .slice none 0 0, .slice none 0 0] 25)) := Bk.start (below_new (below_alloc _) _) (by simp) _ _ _ _
  go_enter Tryz.func39, Tryz.ntmps39
  go_upto_region 1 with fail
  go_cut [] (fun wx => TwoQ w w.heap.size (w.heap.size + 1) (w.heap.size + 1 + 1) q r wx)
  case first =>
    generalize ((w.alloc (.cells #[.bool s, .slice ao n cap, .slice bo m cap'] 25)).alloc (.cells #[.bool t, .slice co n2 cap2, .slice eo m2 cap3] 25)).alloc (.cells #[.bool false, .slice none 0 0, .slice none 0 0] 25) = W at *
    obtain ⟨a0, a1, a2⟩ := hB1.c3
    obtain ⟨b0, b1, b2⟩ := hB2.c3
    go_region_with ((first
      | (go_at_call_of 75 (Value.agg #[Value.bool s, Value.slice ao n cap, Value.slice bo m cap']); refine (rTake_any q _ _ (h.next hB1.bel.drew)).mono ?_; rintro e w1 ⟨v1, rfl, C1, hb1⟩; obtain ⟨xs, xo, xn, xc, yo, yn, yc, rfl⟩ := C1.shape; obtain ⟨c0, c1, c2⟩ := (hB2.drew.next hb1).c3)
      | (go_at_call_of 75 (Value.agg #[Value.bool t, Value.slice co n2 cap2, Value.slice eo m2 cap3]); refine (rTake_any r _ _ (h'.next (below_chain hB1.bel.drew hb1))).mono ?_; rintro e w2 ⟨v2, rfl, C2, hb2⟩; obtain ⟨ys, zo, zn, zc, uo, un, uc, rfl⟩ := C2.shape; have k1 := (hB1.drew.next hb1).next hb2; have k2 := (hB2.drew.next hb1).next hb2; have kG := (hG.drew.next hb1).next hb2; obtain ⟨c0, c1, c2⟩ := k1.c3; obtain ⟨d0, d1, d2⟩ := k2.c3; have f0 := k1.free 0; have f1 := k1.free 1; have f2 := k1.free 2; have g0 := k2.free 0; have g1 := k2.free 1; have g2 := k2.free 2)))
    all_goals
      go_wp2_with fail
      go_meet
      exact two_put k1 k2 kG (C1.next hb2) C2 (by omega) (by omega) (by omega)
  case rest =>
    clear hB1 hB2 hG h h'
    obtain ⟨⟨xs, xo, xn, xc, yo, yn, yc, k1, C1⟩, ⟨ys, zo, zn, zc, uo, un, uc, k2, C2⟩, kG⟩ := hcut
    obtain ⟨e1, sX, sY, zX, zY⟩ := C1.parts
    obtain ⟨e2, sZ, sU, zZ, zU⟩ := C2.parts
    have hd := (Below.refl wc.heap.size wc).drew
    have hxn : xn ≤ 4294967296 := by rw [← sX.lenU]; exact Nat.le_trans hq.1 hk
    have hzn : zn ≤ 4294967296 := by rw [← sZ.lenU]; exact Nat.le_trans hr'.1 hk
    have S1 := k1.c3; have S2 := k2.c3
    have hlq : lim q.den ≤ 4294967296 := Nat.le_trans hq.2 hk
    have hlr : lim r.den ≤ 4294967296 := Nat.le_trans hr'.2 hk
    have hXl : lim (q.num.natAbs * r.den) ≤ 8589934592 := Nat.le_trans (lim_mul _ _) (Nat.le_trans (Nat.add_le_add hq.1 hr'.2) (by omega))
    have hYl : lim (r.num.natAbs * q.den) ≤ 8589934592 := Nat.le_trans (lim_mul _ _) (Nat.le_trans (Nat.add_le_add hr'.1 hq.2) (by omega))
    have hZl : lim (q.den * r.den) ≤ 8589934592 := Nat.le_trans (lim_mul _ _) (Nat.le_trans (Nat.add_le_add hq.2 hr'.2) (by omega))
    have hZ0 : q.den * r.den ≠ 0 := Nat.mul_ne_zero q.den_nz r.den_nz
    have hsum : Hid (∀ (u : Bool) (A : Nat), sgn u A = sgn xs (q.num.natAbs * r.den) + sgn ys (r.num.natAbs * q.den) → mkRat (sgn u A) (q.den * r.den) = q + r) := hid (fun u A h => by
      rw [Rat.add_def', h, e1, e2, sgn_mul, sgn_mul, sgn_num, sgn_num])
    have T1 := hid (fun w' (h : Below wc.heap.size wc w') (bo : Option Addr) (bn bc : Nat) (sb : Sl w' bo bn bc (u32s (dig r.den))) (hbn : bn ≤ 1099511627776) => rtimesD q.num.natAbs r.den (sX.next h) sb (by omega) hbn)
    have T2 := hid (fun w' (h : Below wc.heap.size wc w') (bo : Option Addr) (bn bc : Nat) (sb : Sl w' bo bn bc (u32s (dig q.den))) (hbn : bn ≤ 1099511627776) => rtimesD r.num.natAbs q.den (sZ.next h) sb (by omega) hbn)
    have T3 := hid (fun w' (ao bo : Option Addr) (an ac bn bc : Nat) (sa : Sl w' ao an ac (u32s (dig q.den))) (sb : Sl w' bo bn bc (u32s (dig r.den))) (han : an ≤ 1099511627776) (hbn : bn ≤ 1099511627776) => rtimesD q.den r.den sa sb han hbn)
    generalize q.num.natAbs * r.den = X at *
    generalize r.num.natAbs * q.den = Y at *
    generalize q.den * r.den = Z at *
    have hS0 : C3 w.heap.size (.bool xs) (.slice xo xn xc) (.slice yo yn yc) wc.drew ∧ C3 (w.heap.size + 1) (.bool ys) (.slice zo zn zc) (.slice uo un uc) wc.drew := ⟨S1.next hd, S2.next hd⟩
    clear e1 e2
    have hK : ∀ w' w'', (C3 w.heap.size (.bool xs) (.slice xo xn xc) (.slice yo yn yc) w' ∧ C3 (w.heap.size + 1) (.bool ys) (.slice zo zn zc) (.slice uo un uc) w') → Below w'.heap.size w' w'' → (C3 w.heap.size (.bool xs) (.slice xo xn xc) (.slice yo yn yc) w'' ∧ C3 (w.heap.size + 1) (.bool ys) (.slice zo zn zc) (.slice uo un uc) w'') := fun w' w'' h hb => ⟨h.1.next hb, h.2.next hb⟩
    have hSt : ∀ w' (x y z : Value), (C3 w.heap.size (.bool xs) (.slice xo xn xc) (.slice yo yn yc) w' ∧ C3 (w.heap.size + 1) (.bool ys) (.slice zo zn zc) (.slice uo un uc) w') → (C3 w.heap.size (.bool xs) (.slice xo xn xc) (.slice yo yn yc) (((w'.setCell ⟨w.heap.size + 1 + 1, 0, none⟩ x).setCell ⟨w.heap.size + 1 + 1, 1, none⟩ y).setCell ⟨w.heap.size + 1 + 1, 2, none⟩ z) ∧ C3 (w.heap.size + 1) (.bool ys) (.slice zo zn zc) (.slice uo un uc) (((w'.setCell ⟨w.heap.size + 1 + 1, 0, none⟩ x).setCell ⟨w.heap.size + 1 + 1, 1, none⟩ y).setCell ⟨w.heap.size + 1 + 1, 2, none⟩ z)) := fun w' x y z h => ⟨h.1.set3 (by omega) _ _ _, h.2.set3 (by omega) _ _ _⟩
    go_wp2_with fail
    go_upto_region 3 with fail
    go_cut [5, 6, 7] (fun s5 s6 s7 wx => ThreeN X Y Z s5 s6 s7 wx ∧ (C3 w.heap.size (.bool xs) (.slice xo xn xc) (.slice yo yn yc) wx ∧ C3 (w.heap.size + 1) (.bool ys) (.slice zo zn zc) (.slice uo un uc) wx) ∧ Bk w (w.heap.size + 1 + 1) (.bool false) (.slice none 0 0) (.slice none 0 0) wx)
    case first =>
      go_region_held3 (fun w' => C3 w.heap.size (.bool xs) (.slice xo xn xc) (.slice yo yn yc) w' ∧ C3 (w.heap.size + 1) (.bool ys) (.slice zo zn zc) (.slice uo un uc) w')
        (repeat (first | with_reducible assumption | with_reducible exact hSt _ _ _ _ (by assumption) | with_reducible refine hK _ _ ?_ hb3 | with_reducible refine hK _ _ ?_ hb4 | with_reducible refine hK _ _ ?_ hb5 | with_reducible refine hK _ _ ?_ hb6 | with_reducible refine hK _ _ ?_ hb7 | with_reducible refine hK _ _ ?_ hb8 | with_reducible refine hK _ _ ?_ hb9))
        (first
          | (go_at_call_of 77 (Value.agg #[Value.bool ys, Value.slice zo zn zc, Value.slice uo un uc]); refine (den_any r _ _ (C2.next hd)).mono ?_; rintro e w3 ⟨do2, dn2, dc2, rfl, sD2, hz2, hb3⟩; have hdn2 : dn2 ≤ 4294967296 := by rw [← sD2.lenU]; exact hlr)
          | (go_at_call_of 76 (Value.slice xo xn xc); refine (T1.out _ (below_chain hd hb3) _ _ _ sD2 (by omega)).mono ?_; rintro e w4 ⟨po, pn, pc, rfl, sP, hzp, hb4, _⟩)
          | (go_at_call_of 77 (Value.agg #[Value.bool xs, Value.slice xo xn xc, Value.slice yo yn yc]); refine (den_any q _ _ (((C1.next hd).next hb3).next hb4)).mono ?_; rintro e w5 ⟨do1, dn1, dc1, rfl, sD1, hz1, hb5⟩; have hdn1 : dn1 ≤ 4294967296 := by rw [← sD1.lenU]; exact hlq)
          | (go_at_call_of 76 (Value.slice zo zn zc); refine (T2.out _ (below_chain (below_chain (below_chain hd hb3) hb4) hb5) _ _ _ sD1 (by omega)).mono ?_; rintro e w6 ⟨ho, hn', hc', rfl, sH, hzh, hb6, _⟩)
          | (go_at_call_of 77 (Value.agg #[Value.bool xs, Value.slice xo xn xc, Value.slice yo yn yc]); refine (den_any q _ _ (((((C1.next hd).next hb3).next hb4).next hb5).next hb6)).mono ?_; rintro e w7 ⟨do3, dn3, dc3, rfl, sD3, hz3, hb7⟩; have hdn3 : dn3 ≤ 4294967296 := by rw [← sD3.lenU]; exact hlq)
          | (go_at_call_of 77 (Value.agg #[Value.bool ys, Value.slice zo zn zc, Value.slice uo un uc]); refine (den_any r _ _ ((((((C2.next hd).next hb3).next hb4).next hb5).next hb6).next hb7)).mono ?_; rintro e w8 ⟨do4, dn4, dc4, rfl, sD4, hz4, hb8⟩; have hdn4 : dn4 ≤ 4294967296 := by rw [← sD4.lenU]; exact hlr)
          | (go_at_call_of 76 (Value.slice do3 dn3 dc3); refine (T3.out _ _ _ _ _ _ _ (sD3.next hb8) sD4 (by omega) (by omega)).mono ?_; rintro e w9 ⟨qo, qn, qc, rfl, sQ, hzq, hb9, _⟩))
      go_wp2_with fail
      go_meet
      exact ⟨⟨_, _, _, _, _, _, _, _, _, rfl, rfl, rfl, ((((sP.next hb5).next hb6).next hb7).next hb8).next hb9, ((sH.next hb7).next hb8).next hb9, sQ, hzp, hzh, hzq⟩, (by with_reducible assumption), ((((((kG.drew.next hb3).next hb4).next hb5).next hb6).next hb7).next hb8).next hb9⟩
    case rest =>
      clear hS0 hK hSt kG S1 S2 k1 k2 C1 C2 T1 T2 T3 sX sY sZ sU hd
      obtain ⟨⟨po, pn, pc, ho, hn', hc', qo, qn, qc, rfl, rfl, rfl, sP, sH, sQ, hzp, hzh, hzq⟩, ⟨S1, S2⟩, kG8⟩ := hcut
      have hpn : pn ≤ 8589934592 := by rw [← sP.lenU]; exact hXl
      have hhn : hn' ≤ 8589934592 := by rw [← sH.lenU]; exact hYl
      have hqn : qn ≤ 17179869184 := by rw [← sQ.lenU]; exact Nat.le_trans hZl (by omega)
      have hd8 := (Below.refl wc.heap.size wc).drew
      obtain ⟨l0, l1, l2⟩ := S1
      obtain ⟨m0, m1, m2⟩ := S2
      have S1 : C3 w.heap.size (.bool xs) (.slice xo xn xc) (.slice yo yn yc) wc := ⟨l0, l1, l2⟩
      have S2 : C3 (w.heap.size + 1) (.bool ys) (.slice zo zn zc) (.slice uo un uc) wc := ⟨m0, m1, m2⟩
      by_cases hst : xs = ys
      · subst hst
        have hss : (xs == xs) = true := by simp
        have hval := hid (hsum.out xs (X + Y) (sgn_add xs X Y))
        have hVl : lim (X + Y) ≤ 17179869184 := Nat.le_trans (lim_add hXl hYl) (by omega)
        clear hsum
        go_wp2_with fail
        have hK : ∀ w' w'', (C3 w.heap.size (.bool xs) (.slice xo xn xc) (.slice yo yn yc) w') → Below w'.heap.size w' w'' → (C3 w.heap.size (.bool xs) (.slice xo xn xc) (.slice yo yn yc) w'') := fun w' w'' h hb => h.next hb
        have hSt : ∀ w' (x y z : Value), (C3 w.heap.size (.bool xs) (.slice xo xn xc) (.slice yo yn yc) w') → (C3 w.heap.size (.bool xs) (.slice xo xn xc) (.slice yo yn yc) (((w'.setCell ⟨w.heap.size + 1 + 1, 0, none⟩ x).setCell ⟨w.heap.size + 1 + 1, 1, none⟩ y).setCell ⟨w.heap.size + 1 + 1, 2, none⟩ z)) := fun w' x y z h => h.set3 (by omega) _ _ _
        have hS1 : C3 w.heap.size (.bool xs) (.slice xo xn xc) (.slice yo yn yc) wc.drew := S1.next hd8
        go_region_held3 (fun w' => C3 w.heap.size (.bool xs) (.slice xo xn xc) (.slice yo yn yc) w')
          (repeat (first | with_reducible assumption | with_reducible exact hSt _ _ _ _ (by assumption) | with_reducible refine hK _ _ ?_ hba | with_reducible refine hK _ _ ?_ hb9))
          (first
            | (go_at_call 79; refine (rplusD X Y (sP.next hd8) (sH.next hd8) (by omega) (by omega)).mono ?_; rintro e wa ⟨vo, vn, vc, rfl, sV, hzv, hba, _⟩; have sQa := (sQ.next hd8).next hba)
            | (go_at_call 78; have hvn : vn ≤ 17179869184 := by rw [← sV.lenU]; exact hVl
               refine (rover_any _ (X + Y) Z hZ0 _ _ _ _ _ _ _ sV sQa hzv hzq hvn hqn).mono ?_; rintro e w9 ⟨v9, rfl, C9, hb9⟩; obtain ⟨rb, ro, rn, rc, so, sn, sc, rfl⟩ := C9.shape; have hG9 := (kG8.drew.next hba).next hb9; obtain ⟨d0, d1, d2⟩ := hG9.c3; have f0 := hG9.free 0; have f1 := hG9.free 1; have f2 := hG9.free 2))
        go_wp2_with fail
        refine bodyPost_ret (v := .agg #[.bool rb, .slice ro rn rc, .slice so sn sc]) (by simp [results, Tryz.results39, go_sem, d0, d1, d2]) rfl ?_
        have := (((kG8.drew.next hba).next hb9)).res.rc C9
        rw [hval.out] at this
        exact this
      · have hss : (xs == ys) = false := by simpa using hst
        have hyx : ys = !xs := by cases xs <;> cases ys <;> simp_all
        by_cases hge : Y ≤ X
        · have hdo : decide (0 ≤ ord X Y) = true := by
            rw [decide_eq_true_eq]; unfold ord; rw [if_neg (by omega)]; split <;> decide
          have hval := hid (hsum.out xs (X - Y) (by rw [hyx]; exact sgn_subx xs hge))
          have hVl : lim (X - Y) ≤ 17179869184 := Nat.le_trans (lim_mono (Nat.sub_le _ _)) (Nat.le_trans hXl (by omega))
          clear hsum hyx
          go_wp2_with fail
          refine (compare_any X Y _ _ _ _ _ _ _ sP sH).mono ?_; rintro e w9 ⟨rfl, q9, rfl⟩
          obtain ⟨wz, hwz⟩ : ∃ wz, wz = wc.drewN q9 := ⟨_, rfl⟩
          have S1 := S1.next (below_drewNs q9)
          have S2 := S2.next (below_drewNs q9)
          have sP := sP.drewN q9
          have sH := sH.drewN q9
          have sQ := sQ.drewN q9
          have kG8 := kG8.drewN q9
          rw [← hwz] at S1 S2 sP sH sQ kG8 ⊢
          clear hwz hd8 l0 l1 l2 m0 m1 m2
          obtain ⟨l0, l1, l2⟩ := S1
          obtain ⟨m0, m1, m2⟩ := S2
          have S1 : C3 w.heap.size (.bool xs) (.slice xo xn xc) (.slice yo yn yc) wz := ⟨l0, l1, l2⟩
          have S2 : C3 (w.heap.size + 1) (.bool ys) (.slice zo zn zc) (.slice uo un uc) wz := ⟨m0, m1, m2⟩
          have hd8 := (Below.refl wz.heap.size wz).drew
          go_wp2_with fail
          have hK : ∀ w' w'', (C3 w.heap.size (.bool xs) (.slice xo xn xc) (.slice yo yn yc) w') → Below w'.heap.size w' w'' → (C3 w.heap.size (.bool xs) (.slice xo xn xc) (.slice yo yn yc) w'') := fun w' w'' h hb => h.next hb
          have hSt : ∀ w' (x y z : Value), (C3 w.heap.size (.bool xs) (.slice xo xn xc) (.slice yo yn yc) w') → (C3 w.heap.size (.bool xs) (.slice xo xn xc) (.slice yo yn yc) (((w'.setCell ⟨w.heap.size + 1 + 1, 0, none⟩ x).setCell ⟨w.heap.size + 1 + 1, 1, none⟩ y).setCell ⟨w.heap.size + 1 + 1, 2, none⟩ z)) := fun w' x y z h => h.set3 (by omega) _ _ _
          have hS1 : C3 w.heap.size (.bool xs) (.slice xo xn xc) (.slice yo yn yc) wz.drew := S1.next hd8
          go_region_held3 (fun w' => C3 w.heap.size (.bool xs) (.slice xo xn xc) (.slice yo yn yc) w')
            (repeat (first | with_reducible assumption | with_reducible exact hSt _ _ _ _ (by assumption) | with_reducible refine hK _ _ ?_ hba | with_reducible refine hK _ _ ?_ hb9))
            (first
              | (go_at_call 81; refine (rminusD X Y hge (sP.next hd8) (sH.next hd8) (by omega)).mono ?_; rintro e wa ⟨vo, vn, vc, rfl, sV, hzv, hba, _⟩; have sQa := (sQ.next hd8).next hba)
              | (go_at_call 78; have hvn : vn ≤ 17179869184 := by rw [← sV.lenU]; exact hVl
                 refine (rover_any _ (X - Y) Z hZ0 _ _ _ _ _ _ _ sV sQa hzv hzq hvn hqn).mono ?_; rintro e w9 ⟨v9, rfl, C9, hb9⟩; obtain ⟨rb, ro, rn, rc, so, sn, sc, rfl⟩ := C9.shape; have hG9 := (kG8.drew.next hba).next hb9; obtain ⟨d0, d1, d2⟩ := hG9.c3; have f0 := hG9.free 0; have f1 := hG9.free 1; have f2 := hG9.free 2))
          go_wp2_with fail
          refine bodyPost_ret (v := .agg #[.bool rb, .slice ro rn rc, .slice so sn sc]) (by simp [results, Tryz.results39, go_sem, d0, d1, d2]) rfl ?_
          have := (((kG8.drew.next hba).next hb9)).res.rc C9
          rw [hval.out] at this
          exact this
        · have hdo : decide (0 ≤ ord X Y) = false := by
            rw [decide_eq_false_iff_not]; unfold ord; rw [if_pos (by omega)]; decide
          have hval := hid (hsum.out ys (Y - X) (by rw [hyx]; exact sgn_suby xs (by omega)))
          have hVl : lim (Y - X) ≤ 17179869184 := Nat.le_trans (lim_mono (Nat.sub_le _ _)) (Nat.le_trans hYl (by omega))
          clear hsum hyx
          go_wp2_with fail
          refine (compare_any X Y _ _ _ _ _ _ _ sP sH).mono ?_; rintro e w9 ⟨rfl, q9, rfl⟩
          obtain ⟨wz, hwz⟩ : ∃ wz, wz = wc.drewN q9 := ⟨_, rfl⟩
          have S1 := S1.next (below_drewNs q9)
          have S2 := S2.next (below_drewNs q9)
          have sP := sP.drewN q9
          have sH := sH.drewN q9
          have sQ := sQ.drewN q9
          have kG8 := kG8.drewN q9
          rw [← hwz] at S1 S2 sP sH sQ kG8 ⊢
          clear hwz hd8 l0 l1 l2 m0 m1 m2
          obtain ⟨l0, l1, l2⟩ := S1
          obtain ⟨m0, m1, m2⟩ := S2
          have S1 : C3 w.heap.size (.bool xs) (.slice xo xn xc) (.slice yo yn yc) wz := ⟨l0, l1, l2⟩
          have S2 : C3 (w.heap.size + 1) (.bool ys) (.slice zo zn zc) (.slice uo un uc) wz := ⟨m0, m1, m2⟩
          have hd8 := (Below.refl wz.heap.size wz).drew
          go_wp2_with fail
          have hK : ∀ w' w'', (C3 (w.heap.size + 1) (.bool ys) (.slice zo zn zc) (.slice uo un uc) w') → Below w'.heap.size w' w'' → (C3 (w.heap.size + 1) (.bool ys) (.slice zo zn zc) (.slice uo un uc) w'') := fun w' w'' h hb => h.next hb
          have hSt : ∀ w' (x y z : Value), (C3 (w.heap.size + 1) (.bool ys) (.slice zo zn zc) (.slice uo un uc) w') → (C3 (w.heap.size + 1) (.bool ys) (.slice zo zn zc) (.slice uo un uc) (((w'.setCell ⟨w.heap.size + 1 + 1, 0, none⟩ x).setCell ⟨w.heap.size + 1 + 1, 1, none⟩ y).setCell ⟨w.heap.size + 1 + 1, 2, none⟩ z)) := fun w' x y z h => h.set3 (by omega) _ _ _
          have hS1 : C3 (w.heap.size + 1) (.bool ys) (.slice zo zn zc) (.slice uo un uc) wz.drew := S2.next hd8
          go_region_held3 (fun w' => C3 (w.heap.size + 1) (.bool ys) (.slice zo zn zc) (.slice uo un uc) w')
            (repeat (first | with_reducible assumption | with_reducible exact hSt _ _ _ _ (by assumption) | with_reducible refine hK _ _ ?_ hba | with_reducible refine hK _ _ ?_ hb9))
            (first
              | (go_at_call 81; refine (rminusD Y X (by omega) (sH.next hd8) (sP.next hd8) (by omega)).mono ?_; rintro e wa ⟨vo, vn, vc, rfl, sV, hzv, hba, _⟩; have sQa := (sQ.next hd8).next hba)
              | (go_at_call 78; have hvn : vn ≤ 17179869184 := by rw [← sV.lenU]; exact hVl
                 refine (rover_any _ (Y - X) Z hZ0 _ _ _ _ _ _ _ sV sQa hzv hzq hvn hqn).mono ?_; rintro e w9 ⟨v9, rfl, C9, hb9⟩; obtain ⟨rb, ro, rn, rc, so, sn, sc, rfl⟩ := C9.shape; have hG9 := (kG8.drew.next hba).next hb9; obtain ⟨d0, d1, d2⟩ := hG9.c3; have f0 := hG9.free 0; have f1 := hG9.free 1; have f2 := hG9.free 2))
          go_wp2_with fail
          refine bodyPost_ret (v := .agg #[.bool rb, .slice ro rn rc, .slice so sn sc]) (by simp [results, Tryz.results39, go_sem, d0, d1, d2]) rfl ?_
          have := (((kG8.drew.next hba).next hb9)).res.rc C9
          rw [hval.out] at this
          exact this

end Go.Proofs.YtgohfieleckmgaaGreatDoor

/-
  The contracts of the reference's Sub and Compare. No condition but sizes.
-/
namespace Go.Proofs.YtgohfieleckmgaaGreatDoor
open Go.RowKit
set_option linter.unusedSimpArgs false
set_option linter.unusedVariables false

set_option maxHeartbeats 4000000 in
theorem rSub_any (q r : Rat) (v v2 : Value) (w : World) (h : RatV w v q) (h' : RatV w v2 r) (k : Nat) (hq : Fit k q) (hr' : Fit k r) (hk : k ≤ 4294967296) :
    Calls Tryz.prog 69 #[v, v2] w (RatOut w (q - r)) := by
  obtain ⟨s, ao, n, cap, bo, m, cap', rfl⟩ := h.shape
  obtain ⟨t, co, n2, cap2, eo, m2, cap3, rfl⟩ := h'.shape
  have hB1 : Bk w w.heap.size (.bool s) (.slice ao n cap) (.slice bo m cap') (((w.alloc (.cells #[.bool s, .slice ao n cap, .slice bo m cap'] 25)).alloc (.cells #[.bool t, .slice co n2 cap2, .slice eo m2 cap3] 25)).alloc (.cells #[.bool false, .slice none 0 0, .slice none 0 0] 25)) := ((Bk.start (Below.refl _ _) rfl _ _ _ _).new _).new _
  have hB2 : Bk w (w.heap.size + 1) (.bool t) (.slice co n2 cap2) (.slice eo m2 cap3) (((w.alloc (.cells #[.bool s, .slice ao n cap, .slice bo m cap'] 25)).alloc (.cells #[.bool t, .slice co n2 cap2, .slice eo m2 cap3] 25)).alloc (.cells #[.bool false, .slice none 0 0, .slice none 0 0] 25)) := (Bk.start (below_alloc _) (by simp) _ _ _ _).new _
  have hG : Bk w (w.heap.size + 1 + 1) (.bool false) (.slice none 0 0) (.slice none 0 0) (((w.alloc (.cells #[.bool s, .slice ao n cap, .slice bo m cap'] 25)).alloc (.cells #[.bool t, .slice co n2 cap2, .slice eo m2 cap3] 25)).alloc (.cells #[.bool false, .slice none 0 0, .slice none 0 0] 25)) := Bk.start (below_new (below_alloc _) _) (by simp) _ _ _ _
  have hsub : Hid (q + -r = q - r) := hid (by rw [Rat.sub_eq_add_neg])
  go_enter Tryz.func69, Tryz.ntmps69
  go_wp2_with fail
  generalize ((w.alloc (.cells #[.bool s, .slice ao n cap, .slice bo m cap'] 25)).alloc (.cells #[.bool t, .slice co n2 cap2, .slice eo m2 cap3] 25)).alloc (.cells #[.bool false, .slice none 0 0, .slice none 0 0] 25) = W at *
  have hd := (Below.refl W.heap.size W).drew
  have hS0 : C3 w.heap.size (.bool s) (.slice ao n cap) (.slice bo m cap') W.drew ∧ C3 (w.heap.size + 1) (.bool t) (.slice co n2 cap2) (.slice eo m2 cap3) W.drew := ⟨hB1.c3.next hd, hB2.c3.next hd⟩
  have hK : ∀ w' w'', (C3 w.heap.size (.bool s) (.slice ao n cap) (.slice bo m cap') w' ∧ C3 (w.heap.size + 1) (.bool t) (.slice co n2 cap2) (.slice eo m2 cap3) w') → Below w'.heap.size w' w'' → (C3 w.heap.size (.bool s) (.slice ao n cap) (.slice bo m cap') w'' ∧ C3 (w.heap.size + 1) (.bool t) (.slice co n2 cap2) (.slice eo m2 cap3) w'') := fun w' w'' h hb => ⟨h.1.next hb, h.2.next hb⟩
  have hSt : ∀ w' (x y z : Value), (C3 w.heap.size (.bool s) (.slice ao n cap) (.slice bo m cap') w' ∧ C3 (w.heap.size + 1) (.bool t) (.slice co n2 cap2) (.slice eo m2 cap3) w') → (C3 w.heap.size (.bool s) (.slice ao n cap) (.slice bo m cap') (((w'.setCell ⟨w.heap.size + 1 + 1, 0, none⟩ x).setCell ⟨w.heap.size + 1 + 1, 1, none⟩ y).setCell ⟨w.heap.size + 1 + 1, 2, none⟩ z) ∧ C3 (w.heap.size + 1) (.bool t) (.slice co n2 cap2) (.slice eo m2 cap3) (((w'.setCell ⟨w.heap.size + 1 + 1, 0, none⟩ x).setCell ⟨w.heap.size + 1 + 1, 1, none⟩ y).setCell ⟨w.heap.size + 1 + 1, 2, none⟩ z)) := fun w' x y z h => ⟨h.1.set3 (by omega) _ _ _, h.2.set3 (by omega) _ _ _⟩
  go_region_held3 (fun w' => C3 w.heap.size (.bool s) (.slice ao n cap) (.slice bo m cap') w' ∧ C3 (w.heap.size + 1) (.bool t) (.slice co n2 cap2) (.slice eo m2 cap3) w')
    (repeat (first | with_reducible assumption | with_reducible exact hSt _ _ _ _ (by assumption) | with_reducible refine hK _ _ ?_ hb1 | with_reducible refine hK _ _ ?_ hb2))
    (first
      | (go_at_call 70; refine (rNeg_any r _ _ (h'.next hB1.bel.drew)).mono ?_; rintro e w1 ⟨v1, rfl, C1, hb1⟩)
      | (go_at_call 39; refine (rAdd_any q (-r) _ _ _ (h.next (below_chain hB1.bel.drew hb1)) (C1.toV (fit_neg hr') (by omega)) k hq (fit_neg hr') hk).mono ?_; rintro e w2 ⟨v2, rfl, C2, hb2⟩; obtain ⟨rb, ro, rn, rc, so, sn, sc, rfl⟩ := C2.shape; have hG9 := (hG.drew.next hb1).next hb2; obtain ⟨d0, d1, d2⟩ := hG9.c3; have f0 := hG9.free 0; have f1 := hG9.free 1; have f2 := hG9.free 2))
  go_wp2_with fail
  refine bodyPost_ret (v := .agg #[.bool rb, .slice ro rn rc, .slice so sn sc]) (by simp [results, Tryz.results69, go_sem, d0, d1, d2]) rfl ?_
  have := ((hG.drew.next hb1).next hb2).res.rc C2
  rw [hsub.out] at this
  exact this

set_option maxHeartbeats 1000000 in
theorem rCompare_any (q r : Rat) (v v2 : Value) (w : World) (h : RatV w v q) (h' : RatV w v2 r) (k : Nat) (hq : Fit k q) (hr' : Fit k r) (hk : k ≤ 4294967296) :
    Calls Tryz.prog 74 #[v, v2] w fun e w' => e = .returned (.int .i64 (rsg (q - r))) ∧ Below w.heap.size w w' := by
  obtain ⟨s, ao, n, cap, bo, m, cap', rfl⟩ := h.shape
  obtain ⟨t, co, n2, cap2, eo, m2, cap3, rfl⟩ := h'.shape
  have hb0 := ((Below.refl w.heap.size w).alloc (Nat.le_refl _) (.cells #[.bool s, .slice ao n cap, .slice bo m cap'] 25)).alloc (by simp) (.cells #[.bool t, .slice co n2 cap2, .slice eo m2 cap3] 25)
  have hs := fit_sub hq hr'
  go_enter Tryz.func74, Tryz.ntmps74
  go_wp2_with fail
  refine (rSub_any q r _ _ _ (h.next hb0) (h'.next hb0) k hq hr' hk).mono ?_; rintro e w1 ⟨v1, rfl, C1, hb1⟩
  have hbel := below_chain hb0 hb1
  go_wp2_with fail
  refine (rSign_any _ _ _ (C1.toV hs (by omega))).mono ?_; rintro e w2 ⟨rfl, hb2⟩
  have hbel2 := below_chain hbel hb2
  go_wp2_with fail
  go_ret
  exact ⟨rfl, hbel2⟩

end Go.Proofs.YtgohfieleckmgaaGreatDoor
