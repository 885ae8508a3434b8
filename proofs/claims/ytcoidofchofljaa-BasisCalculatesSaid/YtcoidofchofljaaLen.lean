/-
  math/bits.Len32 and LeadingZeros32 out of the shelf, at this dump; the contract of limbs.length. No condition but sizes.
-/
import Derived.Shelf.Small.Bits
import Derived.Test.YtcoidofchofljaaLimY
namespace Go.Proofs.Ytcoidofchofljaa
open Go.Shelf Go.RowKit
def Try.lays128_ren : Go.Shelf.Ren := ⟨fun | 128 => 101 | n => n, fun | 51 => 95 | 3 => 3 | 4 => 4 | 46 => 98 | 5 => 5 | 9 => 9 | n => n, fun | n => n⟩
theorem Try.lays128 : Go.Proofs.Lays.n128 Try.prog Try.lays128_ren := {
  mixed := by kernel_rfl
  f128 := Try.func101.trans (congrArg some (by kernel_rfl))
  t3 := Try.underlying3
  a3 := Try.isAgg3
  z3 := Try.sizeOf3
  v3 := Try.zeroValue3
  t4 := Try.underlying4
  a4 := Try.isAgg4
  z4 := Try.sizeOf4
  v4 := Try.zeroValue4
  t5 := Try.underlying5
  a5 := Try.isAgg5
  z5 := Try.sizeOf5
  v5 := Try.zeroValue5
  t9 := Try.underlying9
  a9 := Try.isAgg9
  z9 := Try.sizeOf9
  v9 := Try.zeroValue9
  t46 := Try.underlying98
  a46 := Try.isAgg98
  z46 := Try.sizeOf98
  v46 := Try.zeroValue98
  t51 := Try.underlying95
  a51 := Try.isAgg95
  z51 := Try.sizeOf95
  v51 := Try.zeroValue95 }
def Try.lays133_ren : Go.Shelf.Ren := ⟨fun | 133 => 100  | 128 => 101 | n => n, fun | 51 => 95 | 3 => 3 | 4 => 4 | 46 => 98 | 5 => 5 | 9 => 9 | n => n, fun | n => n⟩
theorem Try.lays133 : Go.Proofs.Lays.n133 Try.prog Try.lays133_ren := {
  mixed := by kernel_rfl
  f128 := Try.func101.trans (congrArg some (by kernel_rfl))
  f133 := Try.func100.trans (congrArg some (by kernel_rfl))
  t3 := Try.underlying3
  a3 := Try.isAgg3
  z3 := Try.sizeOf3
  v3 := Try.zeroValue3
  t4 := Try.underlying4
  a4 := Try.isAgg4
  z4 := Try.sizeOf4
  v4 := Try.zeroValue4
  t5 := Try.underlying5
  a5 := Try.isAgg5
  z5 := Try.sizeOf5
  v5 := Try.zeroValue5
  t9 := Try.underlying9
  a9 := Try.isAgg9
  z9 := Try.sizeOf9
  v9 := Try.zeroValue9
  t46 := Try.underlying98
  a46 := Try.isAgg98
  z46 := Try.sizeOf98
  v46 := Try.zeroValue98
  t51 := Try.underlying95
  a51 := Try.isAgg95
  z51 := Try.sizeOf95
  v51 := Try.zeroValue95 }

theorem lead_any (x : Int) (w : World) (h0 : 0 ≤ x) (h1 : x ≤ 4294967295) :
    Calls Try.prog 100 #[.int .u32 x] w fun e w' => e = .returned (.int .i64 (32 - (Lib.bitLen x.toNat : Int))) ∧ w' = w := Any.bits_LeadingZeros32 Try.lays133 x w h0 h1

theorem bitLenAux_bounds : ∀ (f x : Nat), x < 2 ^ f → x ≠ 0 → 1 ≤ Lib.bitLenAux f x ∧ Lib.bitLenAux f x ≤ f ∧ 2 ^ (Lib.bitLenAux f x - 1) ≤ x ∧ x < 2 ^ Lib.bitLenAux f x
  | 0, x, h, h0 => by simp at h; omega
  | f + 1, x, h, h0 => by
    rw [Lib.bitLenAux, if_neg h0]
    by_cases h2 : x / 2 = 0
    · have : Lib.bitLenAux f (x / 2) = 0 := by rw [h2]; cases f <;> simp [Lib.bitLenAux]
      rw [this]; simp; omega
    · obtain ⟨h3, h4, h5, h6⟩ := bitLenAux_bounds f (x / 2) (by rw [Nat.pow_succ] at h; omega) h2
      obtain ⟨m, hm⟩ := Nat.exists_eq_succ_of_ne_zero (show Lib.bitLenAux f (x / 2) ≠ 0 by omega)
      rw [hm] at h3 h4 h5 h6 ⊢
      rw [show 1 + m.succ = m + 1 + 1 by omega]
      simp only [Nat.succ_sub_one, Nat.pow_succ] at h5 h6 ⊢
      omega

theorem bitLen_bounds {x : Nat} (h : x < 4294967296) (h0 : x ≠ 0) : ∃ u : Nat, u ≤ 31 ∧ (32 - (Lib.bitLen x : Int)) = (u : Int) ∧ 2147483648 ≤ x * 2 ^ u ∧ x * 2 ^ u < 4294967296 := by
  have hx32 : x < 2 ^ 32 := by simpa using h
  have e : Lib.bitLen x = Lib.bitLenAux 32 x := Lib.bitLenAux_fuel 32 x hx32 64 (by omega)
  obtain ⟨h1, h2, h3, h4⟩ := bitLenAux_bounds 32 x hx32 h0
  rw [e]
  generalize Lib.bitLenAux 32 x = k at *
  refine ⟨32 - k, by omega, by omega, ?_, ?_⟩
  · have : 2 ^ (k - 1) * 2 ^ (32 - k) ≤ x * 2 ^ (32 - k) := Nat.mul_le_mul_right _ h3
    rw [← Nat.pow_add, show k - 1 + (32 - k) = 31 by omega] at this
    simpa using this
  · have : x * 2 ^ (32 - k) < 2 ^ k * 2 ^ (32 - k) := Nat.mul_lt_mul_of_pos_right h4 (Nat.pow_pos (by decide))
    rw [← Nat.pow_add, show k + (32 - k) = 32 by omega] at this
    simpa using this

theorem length_any (a : List Nat) (ha : Lim a) (j x : Nat) (hx : a[j]? = some x) (hx0 : x ≠ 0) (ao : Option Addr) (cap : Nat) (w : World) (hA : Sl w ao (j + 1) cap (u32s a)) (hj : j ≤ 1099511627776) :
    Calls Try.prog 96 #[.slice ao (j + 1) cap] w fun e w' => (∃ u : Nat, e = .returned (.int .i64 (32 * ((j : Int) + 1) - u)) ∧ u ≤ 31 ∧ 2147483648 ≤ x * 2 ^ u ∧ x * 2 ^ u < 4294967296) ∧ w = w' := by
  have hxl := ha x (List.mem_of_getElem? hx)
  obtain ⟨u, hu, hue, hu1, hu2⟩ := bitLen_bounds hxl hx0
  obtain ⟨y, hy, b, off, rfl, hcell⟩ := hA.u32 (show j < j + 1 by omega)
  obtain rfl : x = y := Option.some.inj (hx.symm.trans hy)
  clear hx hy
  have Hu1 := hid hu1; have Hu2 := hid hu2; have Hue := hid hue
  clear hu1 hu2 hue
  go_enter Try.func96, Try.ntmps96
  go_wp2_with fail
  refine (lead_any x w (by omega) (by omega)).mono ?_; rintro e w' ⟨rfl, rfl⟩
  rw [Int.toNat_natCast, Hue.out]
  go_wp2_with fail
  go_ret
  exact ⟨⟨u, rfl, hu, Hu1.out, Hu2.out⟩, rfl⟩

end Go.Proofs.Ytcoidofchofljaa
