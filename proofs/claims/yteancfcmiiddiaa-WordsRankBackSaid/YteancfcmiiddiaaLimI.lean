/-
  The contracts of the limbs' functions said of numbers; plain facts of long division. No condition but sizes.
-/
import Derived.Test.YteancfcmiiddiaaLimH
namespace Go.Proofs.Yteancfcmiiddiaa
open Go.RowKit

section
variable {w : World} {ao bo : Option Addr} {n m cap cap' : Nat}

theorem plusD (a b : Nat) (hA : Sl w ao n cap (u32s (dig a))) (hB : Sl w bo m cap' (u32s (dig b))) (hn : n ≤ 1099511627776) (hm : m ≤ 1099511627776) :
    Calls Try.prog 133 #[.slice ao n cap, .slice bo m cap'] w (NumOut w (a + b)) := by
  have := plus_any _ _ (lim_dig a) (lim_dig b) _ _ _ _ _ _ _ hA hB hn hm
  rwa [val_dig, val_dig] at this

theorem minusD (a b : Nat) (hle : b ≤ a) (hA : Sl w ao n cap (u32s (dig a))) (hB : Sl w bo m cap' (u32s (dig b))) (hn : n ≤ 1099511627776) (hm : m ≤ 1099511627776) :
    Calls Try.prog 154 #[.slice ao n cap, .slice bo m cap'] w (NumOut w (a - b)) := by
  have := minus_any _ _ (lim_dig a) (lim_dig b) (by rw [val_dig, val_dig]; exact hle) _ _ _ _ _ _ _ hA hB hn hm
  rwa [val_dig, val_dig] at this

theorem timesD (a b : Nat) (hA : Sl w ao n cap (u32s (dig a))) (hB : Sl w bo m cap' (u32s (dig b))) (hn : n ≤ 1099511627776) (hm : m ≤ 1099511627776) :
    Calls Try.prog 128 #[.slice ao n cap, .slice bo m cap'] w (NumOut w (a * b)) := by
  have := times_any _ _ (lim_dig a) (lim_dig b) _ _ _ _ _ _ _ hA hB hn hm
  rwa [val_dig, val_dig] at this

theorem cmpD (a b : Nat) (hA : Sl w ao n cap (u32s (dig a))) (hB : Sl w bo m cap' (u32s (dig b))) :
    Calls Try.prog 153 #[.slice ao n cap, .slice bo m cap'] w fun e w' => e = .returned (.int .i64 (ord a b)) ∧ w = w' := by
  have := cmp_any _ _ (lim_dig a) (lim_dig b) _ _ _ _ _ _ _ hA hB
  rwa [val_dig, val_dig] at this

theorem leftD (a : Nat) (I : Int) (k : Nat) (hI : I = (k : Int)) (hk : k ≤ 1099511627776) (hA : Sl w ao n cap (u32s (dig a))) (hn : n ≤ 1099511627776) :
    Calls Try.prog 131 #[.slice ao n cap, .int .i64 I] w (NumOut w (a * 2 ^ k)) := by
  subst hI
  have := left_any _ (lim_dig a) k hk _ _ _ _ hA hn
  rwa [val_dig] at this

theorem rightD (a : Nat) (I : Int) (k : Nat) (hI : I = (k : Int)) (hk : k ≤ 1099511627776) (hA : Sl w ao n cap (u32s (dig a))) (hn : n ≤ 1099511627776) :
    Calls Try.prog 163 #[.slice ao n cap, .int .i64 I] w (NumOut w (a / 2 ^ k)) := by
  subst hI
  have := right_any _ (lim_dig a) k hk _ _ _ _ hA hn
  rwa [val_dig] at this

theorem smallD (a d : Nat) (hd : 0 < d) (hd' : d < 4294967296) (hA : Sl w ao n cap (u32s (dig a))) (hn : n ≤ 1099511627776) :
    Calls Try.prog 161 #[.slice ao n cap, .int .u32 (d : Int)] w (SmallOut w (a / d) (a % d)) := by
  have := small_any _ (lim_dig a) d hd hd' _ _ _ _ hA hn
  rwa [val_dig] at this

theorem atD (a : Nat) (I : Int) (i x : Nat) (hI : I = (i : Int)) (hX : a / 4294967296 ^ i % 4294967296 = x) (hA : Sl w ao n cap (u32s (dig a))) :
    Calls Try.prog 157 #[.slice ao n cap, .int .i64 I] w fun e w' => e = .returned (.int .u64 (x : Int)) ∧ w = w' :=
  at_anyI _ (lim_dig a) I i x hI (by rw [dig_at]; exact hX) _ _ _ _ hA

/-- The length of a number's slice. -/
theorem Sl.lenD {a k : Nat} (hA : Sl w ao n cap (u32s (dig a))) (h : a < 4294967296 ^ k) : n ≤ k := by
  rw [← hA.lenU]; exact dig_len_le h
end

/-- A slice that does not lie in block G. -/
def Off (G : Nat) (ao : Option Addr) (n : Nat) : Prop := ∀ a, ao = some a → n ≠ 0 → a.block ≠ G

theorem Off.old {w : World} {ao : Option Addr} {n cap G : Nat} {xs : List Value} (h : Sl w ao n cap xs) (hG : w.heap.size ≤ G) : Off G ao n := by
  rintro a rfl hn
  have hl := h.len
  obtain ⟨b, off, e, hc⟩ := h.at_ 0 xs[0] (by rw [List.getElem?_eq_getElem])
  obtain rfl := Option.some.inj e
  have := World.block_lt_of_cell? w _ hc
  simp only at this ⊢
  omega

theorem Off.fresh {ao : Option Addr} {n G B : Nat} (h : ∀ a, ao = some a → B ≤ a.block) (hG : G < B) : Off G ao n := by
  intro a ha _
  have := h a ha
  omega

theorem Sl.setCell {w : World} {ao : Option Addr} {n cap G : Nat} {xs : List Value} (h : Sl w ao n cap xs) (hO : Off G ao n) (j : Nat) (v : Value) : Sl (w.setCell ⟨G, j, none⟩ v) ao n cap xs := by
  refine ⟨h.len, h.le, h.most, fun i x hx => ?_⟩
  obtain ⟨b, off, e, hc⟩ := h.at_ i x hx
  refine ⟨b, off, e, ?_⟩
  have hl := h.len
  have hi := (List.getElem?_eq_some_iff.1 hx).1
  have hne := hO _ e (by omega)
  rw [World.cell?_setCell_other (h := by intro e2; injection e2 with e3; exact hne e3.symm)]
  exact hc

/-! ### Long division, whatever the base -/
theorem guess_ge {B U v vt m k : Nat} (hv : vt * B ^ m ≤ v) (hU : U < v * B ^ (k + 1)) (hvt : 0 < vt) (hv0 : 0 < v) (hB : 0 < B) : U / (v * B ^ k) ≤ U / B ^ (m + k) / vt ∧ U / (v * B ^ k) < B := by
  have hk : 0 < B ^ k := Nat.pow_pos hB
  constructor
  · rw [Nat.le_div_iff_mul_le hvt, Nat.le_div_iff_mul_le (Nat.pow_pos hB)]
    have h1 : U / (v * B ^ k) * (v * B ^ k) ≤ U := Nat.div_mul_le_self _ _
    have h2 : U / (v * B ^ k) * vt * B ^ (m + k) ≤ U / (v * B ^ k) * (v * B ^ k) := by
      rw [Nat.mul_assoc, Nat.pow_add, ← Nat.mul_assoc vt]
      exact Nat.mul_le_mul_left _ (Nat.mul_le_mul_right _ hv)
    omega
  · rw [Nat.div_lt_iff_lt_mul (Nat.mul_pos hv0 hk)]
    rw [Nat.pow_succ] at hU
    calc U < v * (B ^ k * B) := hU
      _ = B * (v * B ^ k) := by rw [← Nat.mul_assoc, Nat.mul_comm]

theorem guess_eq {U P g : Nat} (hP : 0 < P) (h1 : U / P ≤ g) (h2 : g * P ≤ U) : g = U / P ∧ U - g * P < P ∧ U = (U - g * P) + P * g := by
  have h3 : g ≤ U / P := (Nat.le_div_iff_mul_le hP).2 h2
  have h4 : g = U / P := by omega
  have h5 := Nat.div_add_mod U P
  have h6 := Nat.mod_lt U hP
  rw [← h4] at h5
  have h7 : P * g = g * P := Nat.mul_comm _ _
  refine ⟨h4, by omega, by omega⟩

theorem guess_gt {U P g : Nat} (hP : 0 < P) (h2 : ¬ g * P ≤ U) : 1 ≤ g ∧ U / P ≤ g - 1 := by
  have h3 : U / P < g := by
    rw [Nat.div_lt_iff_lt_mul hP]; omega
  generalize U / P = q at *
  omega

theorem top_two {U j : Nat} (h : U < 4294967296 ^ (j + 2)) : U / 4294967296 ^ (j + 1) % 4294967296 * 4294967296 + U / 4294967296 ^ j % 4294967296 = U / 4294967296 ^ j := by
  have h1 := div_step U j
  have h2 := div_step U (j + 1)
  have h3 : U / 4294967296 ^ (j + 1 + 1) = 0 := Nat.div_eq_of_lt h
  rw [h3] at h2
  omega

end Go.Proofs.Yteancfcmiiddiaa
