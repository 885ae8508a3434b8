/-
  math/bits.Len32 and LeadingZeros32 out of the shelf, at this dump; the contract of limbs.length. No condition but sizes.
-/
import Derived.Shelf.Small.Bits
import Derived.Test.YtgohfieleckmgaaGreatDoorLimY
namespace Go.Proofs.YtgohfieleckmgaaGreatDoor
open Go.Shelf Go.RowKit
def Tryz.lays128_ren : Go.Shelf.Ren := ⟨fun | 128 => 160 | n => n, fun | 51 => 102 | 3 => 3 | 4 => 4 | 46 => 119 | 5 => 5 | 9 => 9 | n => n, fun | n => n⟩
theorem Tryz.lays128 : Go.Proofs.Lays.n128 Tryz.prog Tryz.lays128_ren := {
  mixed := by kernel_rfl
  f128 := Tryz.func160.trans (congrArg some (by kernel_rfl))
  t3 := Tryz.underlying3
  a3 := Tryz.isAgg3
  z3 := Tryz.sizeOf3
  v3 := Tryz.zeroValue3
  t4 := Tryz.underlying4
  a4 := Tryz.isAgg4
  z4 := Tryz.sizeOf4
  v4 := Tryz.zeroValue4
  t5 := Tryz.underlying5
  a5 := Tryz.isAgg5
  z5 := Tryz.sizeOf5
  v5 := Tryz.zeroValue5
  t9 := Tryz.underlying9
  a9 := Tryz.isAgg9
  z9 := Tryz.sizeOf9
  v9 := Tryz.zeroValue9
  t46 := Tryz.underlying119
  a46 := Tryz.isAgg119
  z46 := Tryz.sizeOf119
  v46 := Tryz.zeroValue119
  t51 := Tryz.underlying102
  a51 := Tryz.isAgg102
  z51 := Tryz.sizeOf102
  v51 := Tryz.zeroValue102 }
def Tryz.lays133_ren : Go.Shelf.Ren := ⟨fun | 133 => 184  | 128 => 160 | n => n, fun | 51 => 102 | 3 => 3 | 4 => 4 | 46 => 119 | 5 => 5 | 9 => 9 | n => n, fun | n => n⟩
theorem Tryz.lays133 : Go.Proofs.Lays.n133 Tryz.prog Tryz.lays133_ren := {
  mixed := by kernel_rfl
  f128 := Tryz.func160.trans (congrArg some (by kernel_rfl))
  f133 := Tryz.func184.trans (congrArg some (by kernel_rfl))
  t3 := Tryz.underlying3
  a3 := Tryz.isAgg3
  z3 := Tryz.sizeOf3
  v3 := Tryz.zeroValue3
  t4 := Tryz.underlying4
  a4 := Tryz.isAgg4
  z4 := Tryz.sizeOf4
  v4 := Tryz.zeroValue4
  t5 := Tryz.underlying5
  a5 := Tryz.isAgg5
  z5 := Tryz.sizeOf5
  v5 := Tryz.zeroValue5
  t9 := Tryz.underlying9
  a9 := Tryz.isAgg9
  z9 := Tryz.sizeOf9
  v9 := Tryz.zeroValue9
  t46 := Tryz.underlying119
  a46 := Tryz.isAgg119
  z46 := Tryz.sizeOf119
  v46 := Tryz.zeroValue119
  t51 := Tryz.underlying102
  a51 := Tryz.isAgg102
  z51 := Tryz.sizeOf102
  v51 := Tryz.zeroValue102 }

theorem lead_any (x : Int) (w : World) (h0 : 0 ≤ x) (h1 : x ≤ 4294967295) :
    Calls Tryz.prog 184 #[.int .u32 x] w fun e w' => e = .returned (.int .i64 (32 - (Lib.bitLen x.toNat : Int))) ∧ w' = w := Any.bits_LeadingZeros32 Tryz.lays133 x w h0 h1

theorem bitLenAux_bounds : ∀ (f x : Nat), x < 2 ^ f → x ≠ 0 → 1 ≤ Lib.bitLenAux f x ∧ Lib.bitLenAux f x ≤ f ∧ 2 ^ (Lib.bitLenAux f x - 1) ≤ x ∧ x < 2 ^ Lib.bitLenAux f x
  | 0, x, h, h0 => by simp at h; omega
  | f + 1, x, h, h0 => by
    rw [Lib.bitLenAux, if_neg h0]
    by_cases h2 : x / 2 = 0
    · have : Lib.bitLenAux f (x / 2) = 0 := by rw [h2]; cases f <;> simp [Lib.bitLenAux]
      rw [this]; simp; omega
    · obtain ⟨h3, h4, h5, h6⟩ := bitLenAux_bounds f (x / 2) (by rw [Nat.pow_succ] at h; omega) h2
      obtain ⟨m, hm⟩ := Nat.exists_eq_succ_of_ne_zero (show Lib.bitLenAux f (x / 2) ≠ 0 by omega)
      rw [hm] at h3 h4 h5 h6 ⊢
      rw [show 1 + m.succ = m + 1 + 1 by omega]
      simp only [Nat.succ_sub_one, Nat.pow_succ] at h5 h6 ⊢
      omega

theorem bitLen_bounds {x : Nat} (h : x < 4294967296) (h0 : x ≠ 0) : ∃ u : Nat, u ≤ 31 ∧ (32 - (Lib.bitLen x : Int)) = (u : Int) ∧ 2147483648 ≤ x * 2 ^ u ∧ x * 2 ^ u < 4294967296 := by
  have hx32 : x < 2 ^ 32 := by simpa using h
  have e : Lib.bitLen x = Lib.bitLenAux 32 x := Lib.bitLenAux_fuel 32 x hx32 64 (by omega)
  obtain ⟨h1, h2, h3, h4⟩ := bitLenAux_bounds 32 x hx32 h0
  rw [e]
  generalize Lib.bitLenAux 32 x = k at *
  refine ⟨32 - k, by omega, by omega, ?_, ?_⟩
  · have : 2 ^ (k - 1) * 2 ^ (32 - k) ≤ x * 2 ^ (32 - k) := Nat.mul_le_mul_right _ h3
    rw [← Nat.pow_add, show k - 1 + (32 - k) = 31 by omega] at this
    simpa using this
  · have : x * 2 ^ (32 - k) < 2 ^ k * 2 ^ (32 - k) := Nat.mul_lt_mul_of_pos_right h4 (Nat.pow_pos (by decide))
    rw [← Nat.pow_add, show k + (32 - k) = 32 by omega] at this
    simpa using this

theorem length_any (a : List Nat) (ha : Lim a) (j x : Nat) (hx : a[j]? = some x) (hx0 : x ≠ 0) (ao : Option Addr) (cap : Nat) (w : World) (hA : Sl w ao (j + 1) cap (u32s a)) (hj : j ≤ 1099511627776) :
    Calls Tryz.prog 163 #[.slice ao (j + 1) cap] w fun e w' => (∃ u : Nat, e = .returned (.int .i64 (32 * ((j : Int) + 1) - u)) ∧ u ≤ 31 ∧ 2147483648 ≤ x * 2 ^ u ∧ x * 2 ^ u < 4294967296) ∧ w = w' := by
  have hxl := ha x (List.mem_of_getElem? hx)
  obtain ⟨u, hu, hue, hu1, hu2⟩ := bitLen_bounds hxl hx0
  obtain ⟨y, hy, b, off, rfl, hcell⟩ := hA.u32 (show j < j + 1 by omega)
  obtain rfl : x = y := Option.some.inj (hx.symm.trans hy)
  clear hx hy
  have Hu1 := hid hu1; have Hu2 := hid hu2; have Hue := hid hue
  clear hu1 hu2 hue
  go_enter Tryz.func163, Tryz.ntmps163
  go_wp2_with fail
  refine (lead_any x w (by omega) (by omega)).mono ?_; rintro e w' ⟨rfl, rfl⟩
  rw [Int.toNat_natCast, Hue.out]
  go_wp2_with fail
  go_ret
  exact ⟨⟨u, rfl, hu, Hu1.out, Hu2.out⟩, rfl⟩

end Go.Proofs.YtgohfieleckmgaaGreatDoor
