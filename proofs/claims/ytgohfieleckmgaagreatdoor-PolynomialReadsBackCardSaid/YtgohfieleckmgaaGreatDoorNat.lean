/-
  Natural numbers as lists of limbs of 32 bits, the least one first: plain facts. No condition.
-/
import Derived.Test.YtgohfieleckmgaaGreatDoorBase
namespace Go.Proofs.YtgohfieleckmgaaGreatDoor
open Go.RowKit

/-- The number of a list of limbs. -/
def val : List Nat → Nat
  | [] => 0
  | x :: l => x + 4294967296 * val l

/-- Each limb fits 32 bits. -/
def Lim (l : List Nat) : Prop := ∀ x ∈ l, x < 4294967296

/-- The limbs of a number. -/
def dig (n : Nat) : List Nat := if h : n = 0 then [] else n % 4294967296 :: dig (n / 4294967296)
termination_by n
decreasing_by exact Nat.div_lt_self (Nat.pos_of_ne_zero h) (by decide)

/-- Without zeros at the end. -/
def strip : List Nat → List Nat
  | [] => []
  | x :: l => if strip l = [] ∧ x = 0 then [] else x :: strip l

/-- Limbs as values. -/
def u32s (l : List Nat) : List Value := l.map fun x : Nat => Value.int .u32 (x : Int)

theorem dig_zero : dig 0 = [] := by rw [dig]; simp
theorem dig_pos {n : Nat} (h : n ≠ 0) : dig n = n % 4294967296 :: dig (n / 4294967296) := by rw [dig, dif_neg h]

theorem lim_nil : Lim [] := fun x h => by simp at h
theorem lim_cons {x : Nat} {l : List Nat} : Lim (x :: l) ↔ x < 4294967296 ∧ Lim l := by simp [Lim]
theorem lim_append {l r : List Nat} : Lim (l ++ r) ↔ Lim l ∧ Lim r := by
  simp only [Lim, List.mem_append]
  exact ⟨fun h => ⟨fun x hx => h x (.inl hx), fun x hx => h x (.inr hx)⟩, fun h x hx => hx.elim (h.1 x) (h.2 x)⟩

theorem val_append (l r : List Nat) : val (l ++ r) = val l + 4294967296 ^ l.length * val r := by
  induction l with
  | nil => simp [val]
  | cons x l ih =>
    simp only [List.cons_append, val, ih, List.length_cons, Nat.pow_succ, Nat.mul_add]
    have : 4294967296 * (4294967296 ^ l.length * val r) = 4294967296 ^ l.length * 4294967296 * val r := by rw [Nat.mul_left_comm, Nat.mul_assoc]
    omega

theorem val_lt {l : List Nat} (h : Lim l) : val l < 4294967296 ^ l.length := by
  induction l with
  | nil => simp [val]
  | cons x l ih =>
    obtain ⟨hx, hl⟩ := lim_cons.1 h
    have := ih hl
    simp only [val, List.length_cons, Nat.pow_succ]
    omega

theorem lim_dig (n : Nat) : Lim (dig n) := by
  induction n using Nat.strongRecOn with
  | _ n ih =>
    by_cases h : n = 0
    · subst h; rw [dig_zero]; exact lim_nil
    · rw [dig_pos h, lim_cons]
      exact ⟨Nat.mod_lt _ (by decide), ih _ (Nat.div_lt_self (Nat.pos_of_ne_zero h) (by decide))⟩

theorem val_dig (n : Nat) : val (dig n) = n := by
  induction n using Nat.strongRecOn with
  | _ n ih =>
    by_cases h : n = 0
    · subst h; rw [dig_zero]; rfl
    · rw [dig_pos h, val, ih _ (Nat.div_lt_self (Nat.pos_of_ne_zero h) (by decide))]
      omega

theorem strip_eq {l : List Nat} (h : Lim l) : strip l = dig (val l) := by
  induction l with
  | nil => simp [strip, val, dig_zero]
  | cons x l ih =>
    obtain ⟨hx, hl⟩ := lim_cons.1 h
    have e := ih hl
    simp only [strip, val]
    by_cases hz : val l = 0
    · rw [e, hz, dig_zero]
      by_cases hx0 : x = 0
      · subst hx0; simp [dig_zero]
      · rw [if_neg (by simp [hx0]), dig_pos (by omega)]
        congr 1
        · omega
        · rw [show (x + 4294967296 * 0) / 4294967296 = 0 by omega, dig_zero]
    · have hne : strip l ≠ [] := by
        rw [e, dig_pos hz]; simp
      rw [if_neg (by simp [hne]), dig_pos (by omega), e]
      congr 1
      · omega
      · congr 1; omega

theorem dig_val {l : List Nat} (h : Lim l) (hs : strip l = l) : dig (val l) = l := by rw [← strip_eq h, hs]

theorem dig_inj {a b : Nat} (h : dig a = dig b) : a = b := by
  have := congrArg val h
  rwa [val_dig, val_dig] at this

theorem dig_nil {n : Nat} : dig n = [] ↔ n = 0 := by
  constructor
  · intro h; exact dig_inj (h.trans dig_zero.symm)
  · rintro rfl; exact dig_zero

theorem strip_dig (n : Nat) : strip (dig n) = dig n := by rw [strip_eq (lim_dig n), val_dig]

/-- Limb i of a list is that of its number. -/
theorem limb_at {l : List Nat} (h : Lim l) : ∀ i, l.getD i 0 = val l / 4294967296 ^ i % 4294967296 := by
  induction l with
  | nil => intro i; simp [val]
  | cons x l ih =>
    obtain ⟨hx, hl⟩ := lim_cons.1 h
    intro i
    cases i with
    | zero => simp [val]; omega
    | succ i =>
      simp only [List.getD_cons_succ, val]
      rw [ih hl i, Nat.pow_succ, Nat.mul_comm (4294967296 ^ i), ← Nat.div_div_eq_div_mul]
      congr 2; omega

theorem dig_at (n i : Nat) : (dig n).getD i 0 = n / 4294967296 ^ i % 4294967296 := by rw [limb_at (lim_dig n), val_dig]

theorem dig_lt (n : Nat) : n < 4294967296 ^ (dig n).length := by
  have := val_lt (lim_dig n)
  rwa [val_dig] at this

/-- The highest limb is not 0. -/
theorem dig_ge {n : Nat} (h : n ≠ 0) : 4294967296 ^ ((dig n).length - 1) ≤ n := by
  induction n using Nat.strongRecOn with
  | _ n ih =>
    rw [dig_pos h]
    by_cases h' : n / 4294967296 = 0
    · rw [h', dig_zero]; simp; omega
    · have := ih _ (Nat.div_lt_self (Nat.pos_of_ne_zero h) (by decide)) h'
      have hne : (dig (n / 4294967296)).length ≠ 0 := by rw [dig_pos h']; simp
      obtain ⟨m, hm⟩ := Nat.exists_eq_succ_of_ne_zero hne
      rw [hm] at this
      simp only [List.length_cons, hm, Nat.succ_sub_one, Nat.pow_succ] at this ⊢
      omega

theorem dig_len_le {n k : Nat} (h : n < 4294967296 ^ k) : (dig n).length ≤ k := by
  by_cases h0 : n = 0
  · subst h0; rw [dig_zero]; simp
  · have := dig_ge h0
    have hlt := Nat.lt_of_le_of_lt this h
    have := (Nat.pow_lt_pow_iff_right (show 1 < 4294967296 by decide)).1 hlt
    omega

theorem dig_len_mono {a b : Nat} (h : a ≤ b) : (dig a).length ≤ (dig b).length := dig_len_le (Nat.lt_of_le_of_lt h (dig_lt b))

theorem wrapU (e : Int) : IntKind.u64.wrap e = e % 18446744073709551616 := by simp [IntKind.wrap, IntKind.bits, IntKind.signed]
theorem wrapU32 (e : Int) : IntKind.u32.wrap e = e % 4294967296 := by simp [IntKind.wrap, IntKind.bits, IntKind.signed]

theorem u32s_one (l : List Nat) : ∀ u ∈ u32s l, u.oneCell' = true := by
  intro u hu; obtain ⟨_, _, rfl⟩ := List.mem_map.1 hu; rfl

end Go.Proofs.YtgohfieleckmgaaGreatDoor
