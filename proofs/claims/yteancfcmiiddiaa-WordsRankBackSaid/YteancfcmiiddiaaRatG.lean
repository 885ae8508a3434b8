/-
  The contracts of rational.whole and Make. No condition.
-/
import Derived.Test.YteancfcmiiddiaaRatF
import Derived.Test.YteancfcmiiddiaaRefA
namespace Go.Proofs.Yteancfcmiiddiaa
open Go.RowKit
set_option linter.unusedSimpArgs false
set_option linter.unusedVariables false

/-- A sign and a number. -/
def WholeOut (w : World) (v : Int) (e : Ending) (w' : World) : Prop :=
  ∃ ao k cap, e = .returned (.tuple #[.bool (decide (v < 0)), .slice ao k cap]) ∧ Sl w' ao k cap (u32s (dig v.natAbs)) ∧ (ao = none → cap = 0) ∧ Below w.heap.size w w'

theorem WholeOut.of {w w' : World} {v : Int} {ao : Option Addr} {k cap : Nat} {b : Bool} (hb : b = decide (v < 0)) (h : NumOut w v.natAbs (.returned (.slice ao k cap)) w') : WholeOut w v (.returned (.tuple #[.bool b, .slice ao k cap])) w' := by
  obtain ⟨ao', k', cap', he, h1, h2, h3, _⟩ := h
  injection he with he
  injection he with e1 e2 e3
  subst e1 e2 e3 hb
  exact ⟨_, _, _, rfl, h1, h2, h3⟩

set_option maxHeartbeats 1000000 in
theorem whole_any (v : Int) (h1 : -9223372036854775808 ≤ v) (h2 : v ≤ 9223372036854775807) (w : World) :
    Calls Try.prog 150 #[.int .i64 v] w (WholeOut w v) := by
  obtain ⟨N, hN⟩ : ∃ N : Nat, (v.natAbs : Int) = N := ⟨_, rfl⟩
  obtain ⟨x, hx⟩ : ∃ x : Nat, (N : Int) % 4294967296 = x := ⟨N % 4294967296, rfl⟩
  obtain ⟨y, hy⟩ : ∃ y : Nat, (N : Int) / 4294967296 = y := ⟨N / 4294967296, rfl⟩
  have hxb : x < 4294967296 := by omega
  have hyb : y < 4294967296 := by omega
  have hNb : N ≤ 9223372036854775808 := by omega
  obtain ⟨s1, hl, hv2⟩ := two_limbs (w := w) x y hxb hyb
  have hres : Hid (val [x, y] = v.natAbs) := hid (by rw [hv2]; omega)
  clear hv2
  have hown : (w.alloc (.cells #[.int .u32 (x : Int), .int .u32 (y : Int)] 64)).ownsRow w.heap.size 64 1 (.slice (some ⟨w.heap.size, 0, none⟩) 2 2) 2 (u32s [x, y]) :=
    World.ownsRow_lit w #[.int .u32 (x : Int), .int .u32 (y : Int)] 2 (Nat.le_refl _) (by decide) rfl
  by_cases h : v < 0
  · have e1 : IntKind.u64.wrap v = v + 18446744073709551616 := by rw [wrapU]; omega
    have e2 : IntKind.u64.wrap (-(v + 18446744073709551616)) = (N : Int) := by rw [wrapU]; omega
    have hvd : Hid (true = decide (v < 0)) := hid (decide_eq_true h).symm
    clear hN
    go_enter Try.func150, Try.ntmps150
    go_wp2_with fail
    refine (clean_any [x, y] _ _ _ _ s1).mono ?_; rintro e w2 ⟨⟨k', rfl, hk', hs'⟩, rfl⟩
    have Hs' := hid hs'; clear hs'
    go_wp2_with fail
    go_ret2
    exact WholeOut.of hvd.out (NumOut.ofOwn hown hl hres.out hk' Hs'.out (below_alloc _))
  · have hvN : v = (N : Int) := by omega
    subst hvN
    have hvd : Hid (false = decide ((N : Int) < 0)) := hid (decide_eq_false h).symm
    clear hN
    go_enter Try.func150, Try.ntmps150
    go_wp2_with fail
    refine (clean_any [x, y] _ _ _ _ s1).mono ?_; rintro e w2 ⟨⟨k', rfl, hk', hs'⟩, rfl⟩
    have Hs' := hid hs'; clear hs'
    go_wp2_with fail
    go_ret2
    exact WholeOut.of hvd.out (NumOut.ofOwn hown hl hres.out hk' Hs'.out (below_alloc _))

/-- A rational and an error code. -/
def RatOut2 (w : World) (q : Rat) (c : Int) (e : Ending) (w' : World) : Prop := ∃ v, e = .returned (.tuple #[v, .int .i64 c]) ∧ RatC w' v q ∧ Below w.heap.size w w'

theorem RatOut.two {w w' : World} {q : Rat} {v : Value} (c : Int) (h : RatOut w q (.returned v) w') : RatOut2 w q c (.returned (.tuple #[v, .int .i64 c])) w' := by
  obtain ⟨v', he, h1, h2⟩ := h
  injection he with he
  subst he
  exact ⟨_, rfl, h1, h2⟩

theorem lim_abs {v : Int} (h1 : -9223372036854775808 ≤ v) (h2 : v ≤ 9223372036854775807) : lim v.natAbs ≤ 2 := lim_small2 (by omega)

theorem mk_sign (a b : Int) : mkRat (sgn (decide (a < 0) != decide (b < 0)) a.natAbs) b.natAbs = (a : Rat) / (b : Rat) := by
  rw [← Rat.divInt_eq_div]
  by_cases hb : b < 0
  · obtain ⟨n, rfl⟩ := Int.eq_negSucc_of_lt_zero hb
    rw [← Rat.neg_divInt_neg, Int.neg_negSucc]
    have : ((n.succ : Nat) : Int) = ((Int.negSucc n).natAbs : Int) := rfl
    rw [this, Rat.divInt_ofNat]
    congr 1
    rw [decide_eq_true hb, show (decide (a < 0) != true) = !decide (a < 0) by cases decide (a < 0) <;> rfl, sgn_not]
    congr 1
    unfold sgn
    by_cases ha : a < 0
    · rw [decide_eq_true ha, if_pos rfl]; omega
    · rw [decide_eq_false ha]; simp; omega
  · obtain ⟨n, rfl⟩ := Int.eq_ofNat_of_zero_le (show 0 ≤ b by omega)
    rw [Rat.divInt_ofNat, Int.natAbs_natCast]
    congr 1
    rw [decide_eq_false hb, show (decide (a < 0) != false) = decide (a < 0) by cases decide (a < 0) <;> rfl]
    unfold sgn
    by_cases ha : a < 0
    · rw [decide_eq_true ha, if_pos rfl]; omega
    · rw [decide_eq_false ha]; simp; omega

/-- What Make returns. -/
def makeErr (d : Int) : Int := if d = 0 then 11 else 0
def makeRat (a d : Int) : Rat := if d = 0 then 0 else (a : Rat) / (d : Rat)

set_option maxHeartbeats 1000000 in
theorem Make_any (a d : Int) (h1 : -9223372036854775808 ≤ a) (h2 : a ≤ 9223372036854775807) (h3 : -9223372036854775808 ≤ d) (h4 : d ≤ 9223372036854775807) (w : World) :
    Calls Try.prog 122 #[.int .i64 a, .int .i64 d] w (RatOut2 w (makeRat a d) (makeErr d)) := by
  by_cases hd : d = 0
  · subst hd
    have e1 : makeErr 0 = 11 := rfl
    have e2 : makeRat a 0 = 0 := rfl
    rw [e1, e2]
    clear e1 e2
    go_enter Try.func122, Try.ntmps122
    go_wp2_with fail
    refine bodyPost_ret (v := .tuple #[.agg #[.bool false, .slice none 0 0, .slice none 0 0], .int .i64 11]) (by simp [results, Try.results122, go_sem]) rfl ?_
    exact ⟨_, rfl, ratC_zero _, below_alloc _⟩
  · have e1 : makeErr d = 0 := if_neg hd
    have e2 : makeRat a d = mkRat (sgn (decide (a < 0) != decide (d < 0)) a.natAbs) d.natAbs := by rw [mk_sign]; exact if_neg hd
    have hd' : (d == 0) = false := by simpa using hd
    rw [e1, e2]
    have hr := Res.start (Below.refl w.heap.size w) false none 0 0 none 0 0 54
    clear e1 e2
    have la := lim_abs h1 h2
    have ld := lim_abs h3 h4
    have hd0 : d.natAbs ≠ 0 := by omega
    go_enter Try.func122, Try.ntmps122
    go_wp2_with fail
    refine (whole_any a h1 h2 _).mono ?_; rintro e w1 ⟨ao, n, cap, rfl, sA, hzA, hb1⟩
    have hr1 := hr.next hb1
    go_wp2_with fail
    refine (whole_any d h3 h4 _).mono ?_; rintro e w2 ⟨bo, m, cap', rfl, sB, hzB, hb2⟩
    have hr2 := hr1.next hb2
    have sA2 := sA.next hb2
    generalize decide (a < 0) = s at *
    generalize decide (d < 0) = t at *
    go_wp2_with fail
    refine (rat_any (s != t) a.natAbs d.natAbs _ _ ⟨ao, bo, n, cap, m, cap', rfl, sA2, sB, hzA, hzB, hd0⟩ (by omega) (by omega)).mono ?_; rintro e w3 ⟨v3, rfl, C3, hb3⟩
    obtain ⟨rb, ro, rn, rc, so, sn, sc, rfl⟩ := C3.shape
    have hr3 := hr2.next hb3
    obtain ⟨d0, d1, d2, g0, g1, g2, _, _, _, _⟩ := hr2.next hb3
    go_wp2_with fail
    refine bodyPost_ret (v := .tuple #[.agg #[.bool rb, .slice ro rn rc, .slice so sn sc], .int .i64 0]) (by simp [results, Try.results122, go_sem, d0, d1, d2]) rfl ?_
    exact (hr3.rc C3).two 0

end Go.Proofs.Yteancfcmiiddiaa
