/-
  The contract of limbs.over. Its condition: the divisor is not 0.
-/
import Derived.Test.YteancfcmiiddiaaLimI
namespace Go.Proofs.Yteancfcmiiddiaa
open Go.RowKit

/-- Quotient and remainder. -/
def DivOut (w : World) (q r : Nat) (e : Ending) (w' : World) : Prop :=
  ∃ ao n cap bo m cap', e = .returned (.tuple #[.slice ao n cap, .slice bo m cap']) ∧ Sl w' ao n cap (u32s (dig q)) ∧ Sl w' bo m cap' (u32s (dig r)) ∧ (ao = none → cap = 0) ∧ (bo = none → cap' = 0) ∧ Below w.heap.size w w'

theorem one_limb {w : World} (x : Nat) (hx : x < 4294967296) : Sl (w.alloc (.cells #[.int .u32 (x : Int)] 64)) (some ⟨w.heap.size, 0, none⟩) 1 1 (u32s [x]) ∧ Lim [x] ∧ val [x] = x :=
  ⟨Sl.lit w [.int .u32 (x : Int)] 64 (by simp [maxLen]), lim_cons.2 ⟨hx, lim_nil⟩, by simp [val]⟩

theorem overOne_any (a d : Nat) (hd : 0 < d) (hd' : d < 4294967296) (ao bo : Option Addr) (n cap cap' : Nat) (w : World) (hA : Sl w ao n cap (u32s (dig a))) (hB : Sl w bo 1 cap' (u32s (dig d))) (hn : n ≤ 17179869184) :
    Calls Try.prog 132 #[.slice ao n cap, .slice bo 1 cap'] w (DivOut w (a / d) (a % d)) := by
  have hdd : dig d = [d] := by
    rw [dig_pos (by omega), Nat.mod_eq_of_lt hd', Nat.div_eq_of_lt hd', dig_zero]
  rw [hdd] at hB
  obtain ⟨y, hy, b, off, rfl, hcell⟩ := hB.u32 (show 0 < 1 by omega)
  obtain rfl : d = y := by simpa using hy
  clear hy hdd
  rw [Nat.add_zero] at hcell
  have hr : a % d < 4294967296 := by have := Nat.mod_lt a hd; omega
  go_enter Try.func132, Try.ntmps132
  go_wp2_with fail
  refine (smallD a d hd hd' hA (by omega)).mono ?_; rintro e w1 ⟨qo, qn, qcap, rfl, hq, hz, hb1⟩
  generalize hrr : a % d = r at hr
  have Hrr := hid hrr; clear hrr
  obtain ⟨s1, hl, hv⟩ := one_limb (w := w1) r hr
  have hv := hid hv
  go_wp2_with fail
  refine (clean_any [r] _ _ _ _ s1).mono ?_; rintro e w2 ⟨⟨k', rfl, hk', hs'⟩, rfl⟩
  have Hs' := hid hs'; clear hs'
  go_wp2_with fail
  go_ret2
  have h2 := takeU s1 hk' Hs'.out
  rw [strip_eq hl, hv.out] at h2
  rw [Hrr.out]
  exact ⟨_, _, _, _, _, _, rfl, hq.next (below_alloc _), h2, hz, (fun h => by cases h), hb1.alloc hb1.size _⟩

/-- The divisor made high. -/
theorem norm_facts {B b m u x : Nat} (hB : 2 ^ 32 = B) (hx : x = b / B ^ m) (hu : u ≤ 31) (h1 : 2147483648 ≤ x * 2 ^ u) (h2 : x * 2 ^ u < B) :
    b * 2 ^ u < B ^ (m + 1) ∧ B ^ m ≤ b * 2 ^ u ∧ 0 < b * 2 ^ u / B ^ m ∧ b * 2 ^ u / B ^ m < B := by
  have hB0 : 0 < B := by rw [← hB]; decide
  have hp : 0 < B ^ m := Nat.pow_pos hB0
  have h3 := Nat.div_add_mod b (B ^ m)
  have h4 := Nat.mod_lt b hp
  rw [← hx] at h3
  have h5 : (x + 1) * 2 ^ u ≤ B := by
    have e : B = 2 ^ (32 - u) * 2 ^ u := by rw [← Nat.pow_add, show 32 - u + u = 32 by omega, hB]
    rw [e] at h2 ⊢
    exact Nat.mul_le_mul_right _ (Nat.lt_of_mul_lt_mul_right h2)
  have h6 : b < (x + 1) * B ^ m := by rw [Nat.add_mul, Nat.one_mul, Nat.mul_comm x]; omega
  have h7 : b * 2 ^ u < B ^ (m + 1) := by
    calc b * 2 ^ u < (x + 1) * B ^ m * 2 ^ u := Nat.mul_lt_mul_of_pos_right h6 (Nat.pow_pos (by decide))
      _ = (x + 1) * 2 ^ u * B ^ m := by rw [Nat.mul_assoc, Nat.mul_comm (B ^ m), ← Nat.mul_assoc]
      _ ≤ B * B ^ m := Nat.mul_le_mul_right _ h5
      _ = B ^ (m + 1) := by rw [Nat.pow_succ, Nat.mul_comm]
  have h8 : x * 2 ^ u * B ^ m ≤ b * 2 ^ u := by
    calc x * 2 ^ u * B ^ m = B ^ m * x * 2 ^ u := by rw [Nat.mul_comm, ← Nat.mul_assoc]
      _ ≤ b * 2 ^ u := Nat.mul_le_mul_right _ (by rw [hx]; exact Nat.mul_div_le b _)
  have h9 : B ^ m ≤ b * 2 ^ u := Nat.le_trans (Nat.le_mul_of_pos_left _ (by omega)) h8
  exact ⟨h7, h9, Nat.div_pos h9 hp, by rw [Nat.div_lt_iff_lt_mul hp, Nat.mul_comm B]; rw [Nat.pow_succ] at h7; exact h7⟩

theorem dig_len_eq {v m : Nat} (h1 : v < 4294967296 ^ (m + 1)) (h2 : 4294967296 ^ m ≤ v) : (dig v).length = m + 1 := by
  have h3 := dig_len_le h1
  have h4 : m < (dig v).length := by
    have := Nat.lt_of_le_of_lt h2 (dig_lt v)
    exact (Nat.pow_lt_pow_iff_right (show 1 < 4294967296 by decide)).1 this
  omega

theorem top_limb {b m : Nat} (h : (dig b).length = m + 1) : ∃ x, (dig b)[m]? = some x ∧ x ≠ 0 ∧ x = b / 4294967296 ^ m ∧ b < 4294967296 ^ (m + 1) := by
  have h1 := dig_lt b
  rw [h] at h1
  have hb : b ≠ 0 := by rintro rfl; rw [dig_zero] at h; simp at h
  have h2 := dig_ge hb
  rw [h, Nat.add_sub_cancel] at h2
  have hl : m < (dig b).length := by omega
  have h3 := dig_at b m
  have h4 : b / 4294967296 ^ m < 4294967296 := by rw [Nat.div_lt_iff_lt_mul (Nat.pow_pos (by decide)), Nat.mul_comm, ← Nat.pow_succ]; exact h1
  rw [Nat.mod_eq_of_lt h4] at h3
  refine ⟨(dig b)[m], List.getElem?_eq_getElem hl, ?_, ?_, h1⟩
  · rw [List.getD, List.getElem?_eq_getElem hl] at h3
    have : 0 < b / 4294967296 ^ m := Nat.div_pos h2 (Nat.pow_pos (by decide))
    intro h0
    rw [h0] at h3
    simp at h3
    omega
  · rw [List.getD, List.getElem?_eq_getElem hl] at h3
    simpa using h3

end Go.Proofs.Yteancfcmiiddiaa
