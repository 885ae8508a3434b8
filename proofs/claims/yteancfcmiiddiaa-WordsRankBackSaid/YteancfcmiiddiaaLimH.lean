/-
  The contract of limbs.right. No condition but sizes.
-/
import Derived.Test.YteancfcmiiddiaaLimG
namespace Go.Proofs.Yteancfcmiiddiaa
open Go.RowKit

theorem at_anyI (l : List Nat) (hl : Lim l) (I : Int) (i x : Nat) (hI : I = (i : Int)) (hX : l.getD i 0 = x) (ao : Option Addr) (n cap : Nat) (w : World) (h : Sl w ao n cap (u32s l)) :
    Calls Try.prog 157 #[.slice ao n cap, .int .i64 I] w fun e w' => e = .returned (.int .u64 (x : Int)) ∧ w = w' := by
  subst hI; exact at_any l hl i x hX ao n cap w h

theorem shift_core (B s t x y r p : Nat) (hB : 2 ^ s * 2 ^ t = B) (h : p = x + B * (y + B * r)) : p / 2 ^ s % B = (y * B + x) / 2 ^ s % B := by
  have h3 : p = (y * B + x) + 2 ^ s * (B * (2 ^ t * r)) := by
    rw [Nat.mul_left_comm (2 ^ s), ← Nat.mul_assoc (2 ^ s), hB, h, Nat.mul_add, Nat.mul_comm y B]
    omega
  rw [h3, Nat.add_mul_div_left _ _ (Nat.pow_pos (by decide)), Nat.add_mul_mod_self_left]

theorem right_core (B a K s t j x y v : Nat) (hB : 2 ^ s * 2 ^ t = B) (h : v = a / B ^ K / 2 ^ s % B ^ j) (h1 : a / B ^ (K + j) = x + B * (a / B ^ (K + j + 1))) (h2 : a / B ^ (K + j + 1) = y + B * (a / B ^ (K + j + 1 + 1))) :
    v + B ^ j * ((y * B + x) / 2 ^ s % B) = a / B ^ K / 2 ^ s % B ^ (j + 1) := by
  rw [h2] at h1
  have hc := shift_core B s t x y _ _ hB h1
  have he : a / B ^ K / 2 ^ s / B ^ j = a / B ^ (K + j) / 2 ^ s := by
    rw [Nat.div_div_eq_div_mul _ (2 ^ s), Nat.mul_comm (2 ^ s), ← Nat.div_div_eq_div_mul, Nat.div_div_eq_div_mul a, ← Nat.pow_add]
  have hm : a / B ^ K / 2 ^ s % B ^ (j + 1) = a / B ^ K / 2 ^ s % B ^ j + B ^ j * (a / B ^ K / 2 ^ s / B ^ j % B) := by rw [Nat.pow_succ, Nat.mod_mul]
  rw [hm, ← h, he, hc]

theorem val_snoc (o : List Nat) (q : Nat) : val (o ++ [q]) = val o + 4294967296 ^ o.length * q := by
  rw [val_append]; simp only [val, Nat.mul_zero, Nat.add_zero]

/-- One round of right. -/
theorem right_step {a K s j x y : Nat} {o : List Nat} (hs : s < 32) (hlen : o.length = j) (h : val o = a / 4294967296 ^ K / 2 ^ s % 4294967296 ^ j) (hx : x = a / 4294967296 ^ (K + j) % 4294967296) (hy : y = a / 4294967296 ^ (K + j + 1) % 4294967296) :
    val (o ++ [(y * 4294967296 + x) / 2 ^ s % 4294967296]) = a / 4294967296 ^ K / 2 ^ s % 4294967296 ^ (j + 1) := by
  have h1 := div_step a (K + j)
  have h2 := div_step a (K + j + 1)
  rw [← hx] at h1
  rw [← hy] at h2
  have hB : 2 ^ s * 2 ^ (32 - s) = 4294967296 := by rw [← Nat.pow_add, show s + (32 - s) = 32 by omega]
  have e1 : val (o ++ [(y * 4294967296 + x) / 2 ^ s % 4294967296]) = val o + 4294967296 ^ j * ((y * 4294967296 + x) / 2 ^ s % 4294967296) := by
    rw [val_snoc, hlen]
  exact e1.trans (right_core 4294967296 a K s (32 - s) j x y (val o) hB h h1 h2)

set_option maxHeartbeats 2000000 in
theorem right_any (a : List Nat) (ha : Lim a) (k : Nat) (hk : k ≤ 1099511627776) (ao : Option Addr) (n cap : Nat) (w : World) (hA : Sl w ao n cap (u32s a)) (hn : n ≤ 1099511627776) :
    Calls Try.prog 163 #[.slice ao n cap, .int .i64 (k : Int)] w (NumOut w (val a / 2 ^ k)) := by
  have hla := hid hA.lenU
  have ha' := hid (limb_at ha)
  obtain ⟨K, hK⟩ : ∃ K : Nat, (k : Int) / 32 = K := ⟨k / 32, rfl⟩
  obtain ⟨s, hs⟩ : ∃ s : Nat, (k : Int) % 32 = s := ⟨k % 32, rfl⟩
  have hks : Hid (k = 32 * K + s) := hid (by omega)
  have hs32 : s < 32 := by omega
  have hKb : K ≤ 34359738368 := by omega
  have hres : Hid (val a / 2 ^ k = val a / 4294967296 ^ K / 2 ^ s) := hid (by
    rw [Nat.div_div_eq_div_mul, hks.out, Nat.pow_add, Nat.pow_mul])
  go_enter Try.func163, Try.ntmps163
  go_wp2_with fail
  go_loopw [5, 6] (fun v i wr => ∃ (j : Nat) (o : List Nat), i = .int .i64 ((K : Int) + j) ∧ (K + j ≤ n ∨ j = 0) ∧ Lim o ∧ Hid (o.length = j) ∧ Hid (val o = val a / 4294967296 ^ K / 2 ^ s % 4294967296 ^ j) ∧
      wr.ownsRow w.heap.size 64 1 v j (u32s o) ∧ Below w.heap.size w wr) (fun _ i _ => n - (intOf i).toNat)
  case atStart => exact ⟨0, [], by simp, .inr rfl, lim_nil, hid rfl, hid (by simp [val, Nat.mod_one]), World.ownsRow_nil _ _ _ _, Below.refl _ _⟩
  case round =>
    obtain ⟨j, o, rfl, hj, hlo, hlen, hval, hown, hbel⟩ := hrel
    by_cases hlt : K + j < n
    · have hA1 := hA.next hbel
      obtain ⟨x, hx⟩ : ∃ x, x = val a / 4294967296 ^ (K + j) % 4294967296 := ⟨_, rfl⟩
      obtain ⟨y, hy⟩ : ∃ y, y = val a / 4294967296 ^ (K + j + 1) % 4294967296 := ⟨_, rfl⟩
      have hxl : x < 4294967296 := by rw [hx]; exact Nat.mod_lt _ (by decide)
      have hyl : y < 4294967296 := by rw [hy]; exact Nat.mod_lt _ (by decide)
      have hst := hid (right_step hs32 hlen.out hval.out hx hy)
      have Hga := hid (ha'.out (K + j)); have Hgb := hid (ha'.out (K + j + 1))
      rw [← hx] at Hga; rw [← hy] at Hgb
      clear hx hy
      have hor := or_shl y x hyl hxl
      obtain ⟨z, hz⟩ : ∃ z : Nat, (y : Int) * 4294967296 + x = z := ⟨y * 4294967296 + x, by simp⟩
      have hzn : Hid (y * 4294967296 + x = z) := hid (by omega)
      have hzl : z ≤ 18446744073709551615 := by omega
      rw [hz] at hor
      rw [hzn.out] at hst
      clear hz
      go_wp2_with fail
      refine (at_anyI a ha _ (K + j + 1) y (by omega) Hgb.out _ _ _ _ hA1).mono ?_; rintro e w1 ⟨rfl, rfl⟩
      go_wp2_with fail
      refine (at_anyI a ha _ (K + j) x (by omega) Hga.out _ _ _ _ hA1).mono ?_; rintro e w1 ⟨rfl, rfl⟩
      have hlit : Sl (wr.alloc (.cells #[.int .u32 ((z : Int) / 2 ^ s % 4294967296)] 64)) (some ⟨wr.heap.size, 0, none⟩) 1 1 (u32s [z / 2 ^ s % 4294967296]) := by
        have := Sl.lit wr [.int .u32 ((z : Int) / 2 ^ s % 4294967296)] 64 (by simp [maxLen])
        simpa [u32s] using this
      go_wp2_with (at_builtin; go_loud (refine wp_app rfl (.tmp 15) (.tmp 29) 120 rfl 64 _ 4 Try.underlying120 Try.infoU32 rfl w.heap.size _ j _ rfl (hown.alloc _) _ 1 1 _ rfl hlit (fun h => by cases h) (u32s_one _) (by omega) (by omega) (by have := hbel.size; simp only [World.size_alloc]; omega) ?_))
      intro v' w2 hown2 hg2 hb2
      have hbel2 : Below w.heap.size w w2 := (hbel.alloc hbel.size _).trans hb2
      have hown3 : w2.ownsRow w.heap.size 64 1 v' (j + 1) (u32s (o ++ [z / 2 ^ s % 4294967296])) := by
        simpa [u32s] using hown2
      clear hown2
      go_wp2_with fail
      go_roundw
      case rel => exact ⟨j + 1, o ++ [z / 2 ^ s % 4294967296], by go_num, .inl (by omega), lim_append.2 ⟨hlo, lim_cons.2 ⟨Nat.mod_lt _ (by decide), lim_nil⟩⟩, hid (by rw [List.length_append, hlen.out]; rfl), hst.out, hown3, hbel2⟩
      case measure => simp [intOf]; omega
    · have hfin : Hid (val o = val a / 2 ^ k) := hid (by
        rw [hval.out, hres.out]
        apply Nat.mod_eq_of_lt
        have h1 : val a / 4294967296 ^ K < 4294967296 ^ j := by
          rw [Nat.div_lt_iff_lt_mul (Nat.pow_pos (by decide)), ← Nat.pow_add]
          exact Nat.lt_of_lt_of_le (val_lt ha) (Nat.pow_le_pow_right (by decide) (by rw [hla.out]; omega))
        exact Nat.lt_of_le_of_lt (Nat.div_le_self _ _) h1)
      obtain ⟨oo, ocap, rfl, osl⟩ := ownsSl hown
      go_wp2_with fail
      refine (clean_any _ _ _ _ _ osl).mono ?_; rintro e w3 ⟨⟨k', rfl, hk', hs'⟩, rfl⟩
      have Hs' := hid hs'; clear hs'
      go_wp2_with fail
      go_ret
      exact NumOut.ofOwn hown hlo hfin.out hk' Hs'.out hbel

end Go.Proofs.Yteancfcmiiddiaa
