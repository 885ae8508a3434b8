/-
  Plain facts of the order of rationals and of rounding, for the statements about layer 1. No condition.
-/
import Derived.Test.YtjppjhjfogjhaaaGreatDoorRatU
namespace Go.Proofs.YtjppjhjfogjhaaaGreatDoor
open Go.RowKit
set_option linter.unusedSimpArgs false
set_option linter.unusedVariables false

theorem num_lt {q : Rat} : q.num < 0 ↔ q < 0 := by
  have := @Rat.num_nonneg q
  constructor
  · intro h; apply Rat.not_le.1; intro h2; have := this.2 h2; omega
  · intro h; have h3 := Rat.not_le.2 h; have : ¬ 0 ≤ q.num := fun h2 => h3 (this.1 h2); omega

theorem rsg_of (q : Rat) : (q < 0 ∧ rsg q = -1) ∨ (q = 0 ∧ rsg q = 0) ∨ (0 < q ∧ rsg q = 1) := by
  rcases Int.lt_trichotomy q.num 0 with h | h | h
  · exact .inl ⟨num_lt.1 h, by unfold rsg sg; rw [if_pos h]⟩
  · exact .inr (.inl ⟨Rat.num_eq_zero.1 h, by unfold rsg sg; rw [h]; rfl⟩)
  · refine .inr (.inr ⟨?_, by unfold rsg sg; rw [if_neg (by omega), if_neg (by omega)]⟩)
    apply Rat.not_le.1
    intro h2
    have h3 : q ≠ 0 := fun e => by have := Rat.num_eq_zero.2 e; omega
    have h4 : q < 0 := by grind
    have := num_lt.2 h4
    omega

theorem rsg_neg (q : Rat) : rsg (-q) = -rsg q := by
  rcases rsg_of q with ⟨h, e⟩ | ⟨h, e⟩ | ⟨h, e⟩ <;> rcases rsg_of (-q) with ⟨h', e'⟩ | ⟨h', e'⟩ | ⟨h', e'⟩ <;> rw [e, e'] <;> first | rfl | (exfalso; grind)

theorem rsg_swap (x y : Rat) : rsg (y - x) = -rsg (x - y) := by
  rw [← rsg_neg]; congr 1; grind

theorem rsg_zero_iff (x y : Rat) : (rsg (x - y) = 0) ↔ x = y := by
  rcases rsg_of (x - y) with ⟨h, e⟩ | ⟨h, e⟩ | ⟨h, e⟩ <;> rw [e]
  · exact ⟨fun h2 => by omega, fun h2 => by exfalso; subst h2; grind⟩
  · exact ⟨fun _ => by grind, fun _ => rfl⟩
  · exact ⟨fun h2 => by omega, fun h2 => by exfalso; subst h2; grind⟩

theorem rsg_add (x y z : Rat) : rsg ((x + z) - (y + z)) = rsg (x - y) := by congr 1; grind

theorem rsg_mul (x z : Rat) : rsg (x * z) = rsg x * rsg z := by
  have pp : ∀ a b : Rat, 0 < a → 0 < b → 0 < a * b := fun a b h1 h2 => Rat.mul_pos h1 h2
  rcases rsg_of x with ⟨h, e⟩ | ⟨h, e⟩ | ⟨h, e⟩ <;> rcases rsg_of z with ⟨h', e'⟩ | ⟨h', e'⟩ | ⟨h', e'⟩ <;> rcases rsg_of (x * z) with ⟨h2, e2⟩ | ⟨h2, e2⟩ | ⟨h2, e2⟩ <;> rw [e, e', e2] <;> first
    | rfl
    | (exfalso; subst h; grind)
    | (exfalso; subst h'; grind)
    | (exfalso; have := pp x z h h'; grind)
    | (exfalso; have := pp (-x) z (by grind) h'; grind)
    | (exfalso; have := pp x (-z) h (by grind); grind)
    | (exfalso; have := pp (-x) (-z) (by grind) (by grind); grind)

theorem rsg_mul_sub (x y z : Rat) : rsg (x * z - y * z) = rsg (x - y) * rsg z := by rw [← rsg_mul]; congr 1; grind

theorem rsg_trans {x y z : Rat} (h1 : rsg (x - y) < 0) (h2 : rsg (y - z) < 0) : rsg (x - z) < 0 := by
  rcases rsg_of (x - y) with ⟨h, e⟩ | ⟨h, e⟩ | ⟨h, e⟩ <;> rcases rsg_of (y - z) with ⟨h', e'⟩ | ⟨h', e'⟩ | ⟨h', e'⟩ <;> rcases rsg_of (x - z) with ⟨h3, e3⟩ | ⟨h3, e3⟩ | ⟨h3, e3⟩ <;> first | omega | (exfalso; grind)

theorem rsg_le {x y : Rat} : rsg (x - y) ≤ 0 ↔ x ≤ y := by
  rcases rsg_of (x - y) with ⟨h, e⟩ | ⟨h, e⟩ | ⟨h, e⟩ <;> rw [e]
  · exact ⟨fun _ => by grind, fun _ => by decide⟩
  · exact ⟨fun _ => by grind, fun _ => by decide⟩
  · exact ⟨fun h2 => by omega, fun h2 => by exfalso; grind⟩

theorem rsg_ge {x : Rat} : 0 ≤ rsg x ↔ 0 ≤ x := by
  rcases rsg_of x with ⟨h, e⟩ | ⟨h, e⟩ | ⟨h, e⟩ <;> rw [e]
  · exact ⟨fun h2 => by omega, fun h2 => by exfalso; grind⟩
  · exact ⟨fun _ => by grind, fun _ => by decide⟩
  · exact ⟨fun _ => by grind, fun _ => by decide⟩

/-! ### Rounding -/
theorem pow2_pos (b : Nat) : (0 : Rat) < ((2 ^ b : Nat) : Rat) := pos_cast (Nat.pos_of_ne_zero (by simp))

theorem downQ_mul (q : Rat) (b : Nat) : downQ q b * ((2 ^ b : Nat) : Rat) = ((q * ((2 ^ b : Nat) : Rat)).floor : Rat) := by
  unfold downQ
  exact Rat.div_mul_cancel (pow_rat_ne b)

theorem downQ_le (q : Rat) (b : Nat) : downQ q b ≤ q := by
  apply le_of_mul (pow2_pos b)
  rw [downQ_mul]
  exact Rat.floor_le _

theorem downQ_mono {q r : Rat} (h : q ≤ r) (b : Nat) : downQ q b ≤ downQ r b := by
  apply le_of_mul (pow2_pos b)
  rw [downQ_mul, downQ_mul]
  exact Rat.intCast_le_intCast.2 (Rat.floor_monotone (Rat.mul_le_mul_of_nonneg_right h (Rat.le_of_lt (pow2_pos b))))

theorem downQ_int {d : Rat} {b : Nat} {z : Int} (h : d * ((2 ^ b : Nat) : Rat) = (z : Rat)) : downQ d b = d := by
  unfold downQ
  rw [h, Rat.floor_intCast, ← h]
  exact Rat.mul_div_cancel (pow_rat_ne b)

theorem downQ_twice (q : Rat) (b : Nat) : downQ (downQ q b) b = downQ q b := downQ_int (downQ_mul q b)

theorem upQ_twice (q : Rat) (b : Nat) : -downQ (-downQ q b) b = downQ q b := by
  have : downQ (-downQ q b) b = -downQ q b := by
    apply downQ_int (z := -(q * ((2 ^ b : Nat) : Rat)).floor)
    rw [Rat.neg_mul, downQ_mul, Rat.intCast_neg]
  rw [this]; grind

/-- All that RationalRoundsNear asks. -/
theorem near_facts (x y : Rat) (i : Int) (h0 : 0 ≤ i) (h1 : i ≤ 256) :
    (rsg (x - y) ≤ 0 → rsg (downI x i - downI y i) ≤ 0 ∧ rsg (upI x i - upI y i) ≤ 0) ∧ rsg (downI x i - x) ≤ 0 ∧ rsg (x - upI x i) ≤ 0 ∧
      0 ≤ rsg ((upI x i - downI x i) * ((2 ^ i.toNat : Nat) : Rat)) ∧ rsg ((upI x i - downI x i) * ((2 ^ i.toNat : Nat) : Rat) - 1) ≤ 0 ∧ downI (downI x i) i = downI x i ∧ upI (downI x i) i = downI x i := by
  have e : ∀ q, downI q i = downQ q i.toNat := fun q => by unfold downI; rw [if_pos ⟨h0, h1⟩]
  unfold upI
  simp only [e]
  generalize i.toNat = b
  have h2 := downQ_mul x b
  have h3 := downQ_mul (-x) b
  have h4 := Rat.floor_le (x * ((2 ^ b : Nat) : Rat))
  have h5 := Rat.floor_le (-x * ((2 ^ b : Nat) : Rat))
  have h6 := Rat.lt_floor_add_one (x * ((2 ^ b : Nat) : Rat))
  have h7 := Rat.lt_floor_add_one (-x * ((2 ^ b : Nat) : Rat))
  refine ⟨fun h => ⟨rsg_le.2 (downQ_mono (rsg_le.1 h) b), rsg_le.2 ?_⟩, rsg_le.2 (downQ_le x b), rsg_le.2 ?_, rsg_ge.2 ?_, rsg_le.2 ?_, downQ_twice x b, upQ_twice x b⟩
  · apply Rat.neg_le_neg
    exact downQ_mono (Rat.neg_le_neg (rsg_le.1 h)) b
  · have := downQ_le (-x) b
    grind
  · have e1 : (-downQ (-x) b - downQ x b) * ((2 ^ b : Nat) : Rat) = -(downQ (-x) b * ((2 ^ b : Nat) : Rat)) - downQ x b * ((2 ^ b : Nat) : Rat) := by grind
    rw [e1, h2, h3]
    have e2 : -x * ((2 ^ b : Nat) : Rat) = -(x * ((2 ^ b : Nat) : Rat)) := by grind
    rw [e2] at h5 ⊢
    grind
  · have e1 : (-downQ (-x) b - downQ x b) * ((2 ^ b : Nat) : Rat) = -(downQ (-x) b * ((2 ^ b : Nat) : Rat)) - downQ x b * ((2 ^ b : Nat) : Rat) := by grind
    rw [e1, h2, h3]
    have e2 : -x * ((2 ^ b : Nat) : Rat) = -(x * ((2 ^ b : Nat) : Rat)) := by grind
    rw [e2] at h5 h7 ⊢
    generalize x * ((2 ^ b : Nat) : Rat) = X at *
    have e3 : (-(((-X).floor : Int) : Rat) - ((X.floor : Int) : Rat)) = ((-(-X).floor - X.floor : Int) : Rat) := by rw [Rat.intCast_sub, Rat.intCast_neg]
    rw [e3]
    have : -(-X).floor - X.floor < 2 := by
      apply Rat.intCast_lt_intCast.1
      rw [← e3]
      rw [Rat.intCast_add, Rat.intCast_one] at h6 h7
      have : (((2 : Int)) : Rat) = 2 := rfl
      rw [this]
      grind
    have := Rat.intCast_le_intCast.2 (show -(-X).floor - X.floor ≤ 1 by omega)
    exact this

end Go.Proofs.YtjppjhjfogjhaaaGreatDoor
