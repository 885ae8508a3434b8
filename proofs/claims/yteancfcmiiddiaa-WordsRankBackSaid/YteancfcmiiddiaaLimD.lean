/-
  The contract of limbs.times. No condition but sizes.
-/
import Derived.Test.YteancfcmiiddiaaLimC
import Derived.BigQuiet
import Derived.Deep.RegionWith
namespace Go.Proofs.Yteancfcmiiddiaa
open Go.RowKit

theorem val_set {o : List Nat} : ∀ {k z t : Nat}, o[k]? = some t → val (o.set k z) + 4294967296 ^ k * t = val o + 4294967296 ^ k * z := by
  induction o with
  | nil => intro k z t h; simp at h
  | cons y o ih =>
    intro k z t h
    cases k with
    | zero => simp at h; subst h; simp [val]; omega
    | succ k =>
      simp only [List.getElem?_cons_succ] at h
      have := ih (z := z) h
      simp only [List.set_cons_succ, val, Nat.pow_succ]
      have h1 : 4294967296 ^ k * 4294967296 * t = 4294967296 * (4294967296 ^ k * t) := by rw [Nat.mul_comm (4294967296 ^ k), Nat.mul_assoc]
      have h2 : 4294967296 ^ k * 4294967296 * z = 4294967296 * (4294967296 ^ k * z) := by rw [Nat.mul_comm (4294967296 ^ k), Nat.mul_assoc]
      omega

theorem lim_set {o : List Nat} (h : Lim o) {k z : Nat} (hz : z < 4294967296) : Lim (o.set k z) := by
  intro x hx
  rcases List.mem_or_eq_of_mem_set hx with h1 | h1
  · exact h x h1
  · subst h1; exact hz

/-- One round of the inner loop of times. -/
theorem times_step {a b i j c t x y : Nat} {o : List Nat} (ht : o[i + j]? = some t) (h : val o + 4294967296 ^ (i + j) * c = (a % 4294967296 ^ i) * b + 4294967296 ^ i * x * (b % 4294967296 ^ j)) (hy : y = b / 4294967296 ^ j % 4294967296) :
    val (o.set (i + j) ((c + (t + x * y)) % 4294967296)) + 4294967296 ^ (i + (j + 1)) * ((c + (t + x * y)) / 4294967296) = (a % 4294967296 ^ i) * b + 4294967296 ^ i * x * (b % 4294967296 ^ (j + 1)) := by
  have h1 := val_set (z := (c + (t + x * y)) % 4294967296) ht
  have hp : 4294967296 ^ (i + (j + 1)) = 4294967296 ^ (i + j) * 4294967296 := by rw [← Nat.add_assoc, Nat.pow_succ]
  rw [mod_step b j, ← hy, Nat.mul_add (4294967296 ^ i * x), hp]
  have h2 := Nat.mod_add_div (c + (t + x * y)) 4294967296
  generalize (c + (t + x * y)) % 4294967296 = r at *
  generalize (c + (t + x * y)) / 4294967296 = q at *
  have h3 : 4294967296 ^ (i + j) * (r + 4294967296 * q) = 4294967296 ^ (i + j) * (c + (t + x * y)) := by rw [h2]
  have h4 : 4294967296 ^ i * x * (4294967296 ^ j * y) = 4294967296 ^ (i + j) * (x * y) := by
    rw [Nat.pow_add, Nat.mul_assoc, Nat.mul_assoc, Nat.mul_left_comm x]
  rw [h4]
  generalize 4294967296 ^ (i + j) = p at *
  simp only [Nat.mul_add, ← Nat.mul_assoc] at h3 ⊢
  simp only [Nat.mul_assoc p x y] at h3 ⊢
  omega

/-- The inner loop stays within the row. -/
theorem times_room {a b i j c m : Nat} {o : List Nat} (h : val o + 4294967296 ^ (i + j) * c = (a % 4294967296 ^ i) * b + 4294967296 ^ i * (a / 4294967296 ^ i % 4294967296) * (b % 4294967296 ^ j)) (hb : b < 4294967296 ^ m) (hc : 1 ≤ c) : j ≤ m := by
  have h1 : (a % 4294967296 ^ i) * b + 4294967296 ^ i * (a / 4294967296 ^ i % 4294967296) * (b % 4294967296 ^ j) ≤ (a % 4294967296 ^ (i + 1)) * b := by
    rw [mod_step a i, Nat.add_mul]
    exact Nat.add_le_add_left (Nat.mul_le_mul_left _ (Nat.mod_le _ _)) _
  have h2 : (a % 4294967296 ^ (i + 1)) * b < 4294967296 ^ (i + 1) * 4294967296 ^ m := Nat.mul_lt_mul'' (Nat.mod_lt _ (Nat.pow_pos (by decide))) hb
  have h3 : 4294967296 ^ (i + j) ≤ 4294967296 ^ (i + j) * c := Nat.le_mul_of_pos_right _ hc
  rw [← Nat.pow_add] at h2
  have h4 : 4294967296 ^ (i + j) < 4294967296 ^ (i + 1 + m) := by omega
  have := (Nat.pow_lt_pow_iff_right (show 1 < 4294967296 by decide)).1 h4
  omega

theorem times_end {a b i j c : Nat} {o : List Nat} (h : val o + 4294967296 ^ (i + j) * c = (a % 4294967296 ^ i) * b + 4294967296 ^ i * (a / 4294967296 ^ i % 4294967296) * (b % 4294967296 ^ j)) (hb : b < 4294967296 ^ j) (hc : c = 0) : val o = (a % 4294967296 ^ (i + 1)) * b := by
  subst hc
  rw [Nat.mod_eq_of_lt hb] at h
  rw [mod_step a i, Nat.add_mul]
  omega

end Go.Proofs.Yteancfcmiiddiaa
