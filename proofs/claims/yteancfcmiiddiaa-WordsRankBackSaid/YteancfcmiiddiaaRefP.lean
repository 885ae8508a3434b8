/-
  Plain facts of division bit by bit. No condition.
-/
import Derived.Test.YteancfcmiiddiaaNat
namespace Go.Proofs.Yteancfcmiiddiaa
open Go.RowKit

/-- One bit of a division. -/
theorem bit_step {p r q t b : Nat} (hb : 0 < b) (hq : q = p / b) (hr : r = p % b) (ht : t < 2) :
    (b ≤ 2 * r + t → (2 * p + t) / b = 2 * q + 1 ∧ (2 * p + t) % b = 2 * r + t - b) ∧ (¬ b ≤ 2 * r + t → (2 * p + t) / b = 2 * q ∧ (2 * p + t) % b = 2 * r + t) := by
  have h1 := Nat.div_add_mod p b
  have h2 := Nat.mod_lt p hb
  rw [← hq, ← hr] at h1
  rw [← hr] at h2
  constructor
  · intro h
    have e : 2 * p + t = (2 * r + t - b) + b * (2 * q + 1) := by rw [Nat.mul_add, Nat.mul_left_comm]; omega
    rw [e, Nat.add_mul_div_left _ _ hb, Nat.add_mul_mod_self_left, Nat.div_eq_of_lt (by omega), Nat.mod_eq_of_lt (by omega)]
    omega
  · intro h
    have e : 2 * p + t = (2 * r + t) + b * (2 * q) := by rw [Nat.mul_left_comm]; omega
    rw [e, Nat.add_mul_div_left _ _ hb, Nat.add_mul_mod_self_left, Nat.div_eq_of_lt (by omega), Nat.mod_eq_of_lt (by omega)]
    omega

theorem two_step (a k : Nat) : a / 2 ^ k = 2 * (a / 2 ^ (k + 1)) + a / 2 ^ k % 2 := by
  rw [Nat.pow_succ, ← Nat.div_div_eq_div_mul]; omega

/-- Bit 32 j + s of a number stands in its limb j. -/
theorem bit_core {B a j s x : Nat} (hB : 2 ^ 32 = B) (hs : s < 32) (hx : x = a / B ^ j % B) : x / 2 ^ s % 2 = a / 2 ^ (32 * j + s) % 2 := by
  have e1 : B = 2 ^ s * 2 ^ (32 - s) := by rw [← Nat.pow_add, show s + (32 - s) = 32 by omega, hB]
  have e2 : B ^ j * 2 ^ s = 2 ^ (32 * j + s) := by rw [← hB, ← Nat.pow_mul, ← Nat.pow_add]
  have h1 : x / 2 ^ s = a / B ^ j / 2 ^ s % 2 ^ (32 - s) := by
    generalize a / B ^ j = p at *
    rw [hx, e1, Nat.mod_mul_right_div_self]
  rw [h1, Nat.mod_mod_of_dvd _ (show 2 ∣ 2 ^ (32 - s) from Nat.pow_dvd_pow 2 (show 1 ≤ 32 - s by omega)), Nat.div_div_eq_div_mul, e2]

/-- A bit is set in a limb whose lower bits are 0. -/
theorem set_core {B Q N j s x : Nat} (hB : 2 ^ 32 = B) (hs : s < 32) (hN : N = Q * 2 ^ (32 * j + s + 1)) (hx : x = N / B ^ j % B) :
    ∃ y, x = 2 ^ (s + 1) * y ∧ x + 2 ^ s < B ∧ B ^ j * 2 ^ s = 2 ^ (32 * j + s) := by
  have e1 : B = 2 ^ (s + 1) * 2 ^ (31 - s) := by rw [← Nat.pow_add, show s + 1 + (31 - s) = 32 by omega, hB]
  have e2 : B ^ j * 2 ^ s = 2 ^ (32 * j + s) := by rw [← hB, ← Nat.pow_mul, ← Nat.pow_add]
  have hBj : 0 < B ^ j := Nat.pow_pos (by rw [← hB]; decide)
  have h1 : N / B ^ j = 2 ^ (s + 1) * Q := by
    have : N = B ^ j * (2 ^ (s + 1) * Q) := by
      rw [hN, show 32 * j + s + 1 = 32 * j + (s + 1) by omega, Nat.pow_add, ← Nat.mul_assoc, ← hB, ← Nat.pow_mul, Nat.mul_comm Q, Nat.mul_assoc, Nat.mul_comm Q]
    rw [this, Nat.mul_div_cancel_left _ hBj]
  have h2 : x = 2 ^ (s + 1) * (Q % 2 ^ (31 - s)) := by rw [hx, h1]; conv => lhs; rhs; rw [e1]
                                                       rw [Nat.mul_mod_mul_left]
  refine ⟨_, h2, ?_, e2⟩
  have h3 : Q % 2 ^ (31 - s) < 2 ^ (31 - s) := Nat.mod_lt _ (Nat.pow_pos (by decide))
  have h4 : 2 ^ (s + 1) * (Q % 2 ^ (31 - s)) + 2 ^ (s + 1) ≤ 2 ^ (s + 1) * 2 ^ (31 - s) := by
    rw [← Nat.mul_succ]; exact Nat.mul_le_mul_left _ h3
  have h5 : 2 ^ s < 2 ^ (s + 1) := Nat.pow_lt_pow_right (by decide) (by omega)
  rw [← e1, ← h2] at h4
  omega

theorem or_bit {x y s : Nat} (hx : x = 2 ^ (s + 1) * y) : x ||| 2 ^ s = x + 2 ^ s := by
  have h := Nat.shiftLeft_add_eq_or_of_lt (show 2 ^ s < 2 ^ (s + 1) from Nat.pow_lt_pow_right (by decide) (by omega)) y
  rw [Nat.shiftLeft_eq, Nat.mul_comm y, ← hx] at h
  exact h.symm

end Go.Proofs.Yteancfcmiiddiaa
