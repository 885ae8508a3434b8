/-
  Sizes of numbers in limbs and of rationals: plain facts. No condition.
-/
import Derived.Test.YtgohfieleckmgaaGreatDoorNat
namespace Go.Proofs.YtgohfieleckmgaaGreatDoor
open Go.RowKit

/-- How many limbs a number has. -/
def lim (a : Nat) : Nat := (dig a).length

theorem lim_zero : lim 0 = 0 := by rw [lim, dig_zero]; rfl
theorem lim_lt (a : Nat) : a < 4294967296 ^ lim a := dig_lt a
theorem lim_le {a k : Nat} (h : a < 4294967296 ^ k) : lim a ≤ k := dig_len_le h
theorem lim_mono {a b : Nat} (h : a ≤ b) : lim a ≤ lim b := dig_len_mono h
theorem lim_one : lim 1 = 1 := by rw [lim, dig_pos (by decide), dig_zero]; rfl
theorem lim_mul (a b : Nat) : lim (a * b) ≤ lim a + lim b := by
  apply lim_le
  rw [Nat.pow_add]
  have h1 := lim_lt a
  have h2 := lim_lt b
  generalize 4294967296 ^ lim a = x at *
  generalize 4294967296 ^ lim b = y at *
  exact Nat.mul_lt_mul_of_lt_of_le h1 (Nat.le_of_lt h2) (by omega)
theorem lim_add {a b k : Nat} (ha : lim a ≤ k) (hb : lim b ≤ k) : lim (a + b) ≤ k + 1 := by
  apply lim_le
  have h1 := Nat.lt_of_lt_of_le (lim_lt a) (Nat.pow_le_pow_right (by decide) ha)
  have h2 := Nat.lt_of_lt_of_le (lim_lt b) (Nat.pow_le_pow_right (by decide) hb)
  rw [Nat.pow_succ]
  generalize 4294967296 ^ k = x at *
  omega
theorem lim_small {a : Nat} (h : a < 4294967296) : lim a ≤ 1 := lim_le (by simpa using h)
theorem lim_small2 {a : Nat} (h : a < 18446744073709551616) : lim a ≤ 2 := lim_le (by simpa using h)

/-- A rational of at most so many limbs. -/
def Fit (k : Nat) (q : Rat) : Prop := lim q.num.natAbs ≤ k ∧ lim q.den ≤ k

theorem Fit.mono {k l : Nat} {q : Rat} (h : Fit k q) (hkl : k ≤ l) : Fit l q := ⟨Nat.le_trans h.1 hkl, Nat.le_trans h.2 hkl⟩

theorem fit_mk {k : Nat} {a : Int} {b : Nat} (ha : lim a.natAbs ≤ k) (hb : lim b ≤ k) (h1 : 1 ≤ k) : Fit k (mkRat a b) := by
  constructor
  · rw [Rat.num_mkRat]
    split
    · rw [show (0 : Int).natAbs = 0 from rfl, lim_zero]; omega
    · refine Nat.le_trans (lim_mono ?_) ha
      rw [Int.natAbs_ediv_of_dvd (by
        have := Nat.gcd_dvd_right b a.natAbs
        exact Int.ofNat_dvd_left.2 this)]
      exact Nat.div_le_self _ _
  · rw [Rat.den_mkRat]
    split
    · rw [lim_one]; exact h1
    · exact Nat.le_trans (lim_mono (Nat.div_le_self _ _)) hb

theorem fit_zero {k : Nat} (h : 1 ≤ k) : Fit k 0 := ⟨by rw [show (0 : Rat).num.natAbs = 0 from rfl, lim_zero]; omega, by rw [show (0 : Rat).den = 1 from rfl, lim_one]; exact h⟩
theorem fit_one {k : Nat} (h : 1 ≤ k) : Fit k 1 := ⟨by rw [show (1 : Rat).num.natAbs = 1 from rfl, lim_one]; exact h, by rw [show (1 : Rat).den = 1 from rfl, lim_one]; exact h⟩
theorem fit_neg {k : Nat} {q : Rat} (h : Fit k q) : Fit k (-q) := ⟨by rw [Rat.neg_num, Int.natAbs_neg]; exact h.1, by rw [Rat.neg_den]; exact h.2⟩
theorem den_lim (q : Rat) : 1 ≤ lim q.den := by
  have h : dig q.den ≠ [] := fun h => q.den_nz (dig_nil.1 h)
  unfold lim
  cases hd : dig q.den with
  | nil => exact absurd hd h
  | cons _ _ => simp
theorem Fit.pos {k : Nat} {q : Rat} (h : Fit k q) : 1 ≤ k := Nat.le_trans (den_lim q) h.2
theorem fit_mul {k l : Nat} {q r : Rat} (h : Fit k q) (h' : Fit l r) : Fit (k + l) (q * r) := by
  rw [Rat.mul_def']
  refine fit_mk ?_ ?_ (by have := h.pos; omega)
  · rw [Int.natAbs_mul]
    exact Nat.le_trans (lim_mul _ _) (Nat.add_le_add h.1 h'.1)
  · exact Nat.le_trans (lim_mul _ _) (Nat.add_le_add h.2 h'.2)
theorem fit_add {k l : Nat} {q r : Rat} (h : Fit k q) (h' : Fit l r) : Fit (k + l + 1) (q + r) := by
  rw [Rat.add_def']
  refine fit_mk ?_ ?_ (by omega)
  · refine Nat.le_trans (lim_mono (Int.natAbs_add_le _ _)) ?_
    rw [Int.natAbs_mul, Int.natAbs_mul, Int.natAbs_natCast, Int.natAbs_natCast]
    refine lim_add (Nat.le_trans (lim_mul _ _) (Nat.add_le_add h.1 h'.2)) (Nat.le_trans (lim_mul _ _) ?_)
    have := h'.1; have := h.2; omega
  · exact Nat.le_trans (lim_mul _ _) (by have := h.2; have := h'.2; omega)
theorem fit_sub {k l : Nat} {q r : Rat} (h : Fit k q) (h' : Fit l r) : Fit (k + l + 1) (q - r) := by
  rw [Rat.sub_eq_add_neg]; exact fit_add h (fit_neg h')
theorem fit_inv {k : Nat} {q : Rat} (h : Fit k q) : Fit k q⁻¹ := by
  constructor
  · rw [Rat.num_inv, Int.natAbs_mul, Int.natAbs_natCast]
    refine Nat.le_trans (lim_mono ?_) h.2
    have : q.num.sign.natAbs ≤ 1 := by
      rcases Int.lt_trichotomy q.num 0 with h | h | h
      · rw [Int.sign_eq_neg_one_of_neg h]; decide
      · rw [h]; decide
      · rw [Int.sign_eq_one_of_pos h]; decide
    calc _ ≤ 1 * q.den := Nat.mul_le_mul_right _ this
      _ = q.den := Nat.one_mul _
  · rw [Rat.den_inv]
    split
    · rw [lim_one]; exact h.pos
    · exact h.1
theorem fit_div {k l : Nat} {q r : Rat} (h : Fit k q) (h' : Fit l r) : Fit (k + l) (q / r) := by
  rw [Rat.div_def]; exact fit_mul h (fit_inv h')
theorem fit_int {k : Nat} {z : Int} (h : lim z.natAbs ≤ k) (h1 : 1 ≤ k) : Fit k (z : Rat) := ⟨h, by rw [Rat.den_intCast, lim_one]; exact h1⟩

/-! ### Signs and fractions -/
/-- A number with a sign. -/
def sgn (neg : Bool) (a : Nat) : Int := if neg then -(a : Int) else (a : Int)

theorem sgn_abs (neg : Bool) (a : Nat) : (sgn neg a).natAbs = a := by cases neg <;> simp [sgn]
theorem sgn_neg (neg : Bool) {a : Nat} (h : a ≠ 0) : decide (sgn neg a < 0) = neg := by
  cases neg with
  | true => simp [sgn]; omega
  | false => simp [sgn]
theorem sgn_not (neg : Bool) (a : Nat) : sgn (!neg) a = -sgn neg a := by cases neg <;> simp [sgn]
theorem sgn_xor (s t : Bool) (a b : Nat) : sgn (s != t) (a * b) = sgn s a * sgn t b := by
  cases s <;> cases t <;> simp [sgn, Int.neg_mul, Int.mul_neg]
theorem mk_num (q : Rat) : mkRat q.num q.den = q := Rat.mkRat_self q
theorem sgn_num (q : Rat) : sgn (decide (q.num < 0)) q.num.natAbs = q.num := by
  unfold sgn
  by_cases h : q.num < 0
  · rw [decide_eq_true h, if_pos rfl]; omega
  · rw [decide_eq_false h]; simp; omega

/-- What is left when the greatest common divisor is taken out. -/
theorem mk_reduce (neg : Bool) {a b : Nat} (ha : a ≠ 0) (hb : b ≠ 0) :
    (mkRat (sgn neg a) b).num.natAbs = a / Nat.gcd a b ∧ (mkRat (sgn neg a) b).den = b / Nat.gcd a b ∧ decide ((mkRat (sgn neg a) b).num < 0) = neg := by
  have hg : Nat.gcd a b ≠ 0 := fun h => ha (Nat.gcd_eq_zero_iff.1 h).1
  have hd : (b.gcd (sgn neg a).natAbs) = Nat.gcd a b := by rw [sgn_abs, Nat.gcd_comm]
  have hdv : ((Nat.gcd a b : Nat) : Int) ∣ sgn neg a := Int.ofNat_dvd_left.2 (by rw [sgn_abs]; exact Nat.gcd_dvd_left a b)
  have hn : (mkRat (sgn neg a) b).num = sgn neg (a / Nat.gcd a b) := by
    rw [Rat.num_mkRat, if_neg hb, hd]
    cases neg with
    | true => simp only [sgn, if_true]; rw [Int.neg_ediv_of_dvd (Int.natCast_dvd_natCast.2 (Nat.gcd_dvd_left a b)), Int.natCast_ediv]
    | false => simp only [sgn, Bool.false_eq_true, if_false]; rw [Int.natCast_ediv]
  have hq : a / Nat.gcd a b ≠ 0 := by
    have := Nat.div_mul_cancel (Nat.gcd_dvd_left a b)
    intro h; rw [h] at this; omega
  refine ⟨by rw [hn, sgn_abs], by rw [Rat.den_mkRat, if_neg hb, hd], by rw [hn]; exact sgn_neg neg hq⟩

end Go.Proofs.YtgohfieleckmgaaGreatDoor
