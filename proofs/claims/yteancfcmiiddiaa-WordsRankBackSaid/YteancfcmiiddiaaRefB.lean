/-
  Contracts of the reference's plus. No condition but sizes.
-/
import Derived.Test.YteancfcmiiddiaaRefA
namespace Go.Proofs.Yteancfcmiiddiaa
open Go.RowKit

theorem plus_end {B a b o c M : Nat} (hB : 2 ≤ B) (h1 : a < B ^ M) (h2 : b < B ^ M) (h3 : o < B ^ (M + 1)) (h : o + B ^ (M + 1) * c = a % B ^ (M + 1) + b % B ^ (M + 1)) : o = a + b := by
  have h4 : 2 * B ^ M ≤ B ^ (M + 1) := by rw [Nat.pow_succ, Nat.mul_comm]; exact Nat.mul_le_mul_left _ hB
  generalize B ^ (M + 1) = r at *
  generalize B ^ M = p at *
  rw [Nat.mod_eq_of_lt (show a < r by omega), Nat.mod_eq_of_lt (show b < r by omega)] at h
  by_cases hc1 : c = 0
  · subst hc1; omega
  · have : r ≤ r * c := Nat.le_mul_of_pos_right _ (by omega)
    omega

theorem minus_end {p a b o c : Nat} (h2 : a < p) (hle : b ≤ a) (h3 : o < p) (h : o + b % p = a % p + p * c) : o = a - b := by
  rw [Nat.mod_eq_of_lt h2, Nat.mod_eq_of_lt (by omega)] at h
  by_cases hc1 : c = 0
  · subst hc1; omega
  · have : p ≤ p * c := Nat.le_mul_of_pos_right _ (by omega)
    omega

set_option maxHeartbeats 1000000 in
theorem rplus_any (a b : List Nat) (ha : Lim a) (hb : Lim b) (ao bo : Option Addr) (n m cap cap' : Nat) (w : World) (hA : Sl w ao n cap (u32s a)) (hB : Sl w bo m cap' (u32s b)) (hn : n ≤ 1099511627776) (hm : m ≤ 1099511627776) :
    Calls Try.prog 111 #[.slice ao n cap, .slice bo m cap'] w (NumOut w (val a + val b)) := by
  have hla := hid hA.lenU
  have hlb := hid hB.lenU
  have ha' := hid (limb_at ha)
  have hb' := hid (limb_at hb)
  obtain ⟨M, hM1, hM2, hM⟩ : ∃ M, n ≤ M ∧ m ≤ M ∧ (M = n ∨ M = m) := ⟨max n m, Nat.le_max_left _ _, Nat.le_max_right _ _, by omega⟩
  go_enter Try.func111, Try.ntmps111
  go_wp2_with fail
  go_loopw [5, 6, 7] (fun v s i wr => ∃ (k c : Nat) (o : List Nat), k ≤ M + 1 ∧ i = .int .i64 k ∧ s = .int .u64 c ∧ c ≤ 1 ∧ Hid (o.length = k) ∧ Lim o ∧ Hid (val o + 4294967296 ^ k * c = val a % 4294967296 ^ k + val b % 4294967296 ^ k) ∧
      wr.ownsRow w.heap.size 64 1 v k (u32s o) ∧ Below w.heap.size w wr) (fun _ _ i _ => M + 1 - (intOf i).toNat)
  case atStart => exact ⟨0, 0, [], by omega, rfl, rfl, by omega, hid rfl, lim_nil, hid (by simp [val, Nat.mod_one]), World.ownsRow_nil _ _ _ _, Below.refl _ _⟩
  case round =>
    obtain ⟨k, c, o, hk, rfl, rfl, hc, hlen, hlo, hval, hown, hbel⟩ := hrel
    by_cases hgo : k ≤ M
    · have hA1 := hA.next hbel
      have hB1 := hB.next hbel
      have hx : val a / 4294967296 ^ k % 4294967296 < 4294967296 := Nat.mod_lt _ (by decide)
      have hy : val b / 4294967296 ^ k % 4294967296 < 4294967296 := Nat.mod_lt _ (by decide)
      have hst := plus_step hlen.out hval.out _ _ rfl rfl
      have hga := ha'.out k
      have hgb := hb'.out k
      generalize val a / 4294967296 ^ k % 4294967296 = x at *
      generalize val b / 4294967296 ^ k % 4294967296 = y at *
      rw [show c + (x + y) = x + y + c by omega] at hst
      have Hst := hid hst; have Hga := hid hga; have Hgb := hid hgb
      clear hst hga hgb
      rcases Nat.lt_or_ge n m with hnm | hnm
      all_goals
        go_wp2_with fail
        refine (limb_any a ha _ k x rfl Hga.out _ _ _ _ hA1).mono ?_; rintro e w1 ⟨rfl, rfl⟩
        go_wp2_with fail
        refine (limb_any b hb _ k y rfl Hgb.out _ _ _ _ hB1).mono ?_; rintro e w1 ⟨rfl, rfl⟩
        have hlit : Sl (wr.alloc (.cells #[.int .u32 (((x : Int) + (y : Int) + (c : Int)) % 4294967296)] 64)) (some ⟨wr.heap.size, 0, none⟩) 1 1 (u32s [(x + y + c) % 4294967296]) := by
          have := Sl.lit wr [.int .u32 (((x : Int) + (y : Int) + (c : Int)) % 4294967296)] 64 (by simp [maxLen])
          simpa [u32s] using this
        go_wp2_with (at_builtin; go_loud (refine wp_app rfl (.tmp 27) (.tmp 30) 52 rfl 64 _ 4 Try.underlying52 Try.infoU32 rfl w.heap.size _ k _ rfl (hown.alloc _) _ 1 1 _ rfl hlit (fun h => by cases h) (u32s_one _) (by omega) (by omega) (by have := hbel.size; simp only [World.size_alloc]; omega) ?_))
        intro v' w2 hown2 hg2 hb2
        have hbel2 : Below w.heap.size w w2 := (hbel.alloc hbel.size _).trans hb2
        go_wp2_with fail
        go_roundw
        case rel => exact ⟨k + 1, (x + y + c) / 4294967296, o ++ [(x + y + c) % 4294967296], by omega, by go_num, by simp, by omega, hid (by rw [List.length_append, hlen.out]; rfl), lim_append.2 ⟨hlo, lim_cons.2 ⟨Nat.mod_lt _ (by decide), lim_nil⟩⟩, Hst, by simpa [u32s] using hown2, hbel2⟩
        case measure => simp [intOf]; omega
    · have hkM : k = M + 1 := by omega
      have hres : Hid (val o = val a + val b) := hid (plus_end (B := 4294967296) (by omega) (Nat.lt_of_lt_of_le (val_lt ha) (Nat.pow_le_pow_right (show 0 < 4294967296 by decide) (show a.length ≤ M by rw [hla.out]; exact hM1)))
        (Nat.lt_of_lt_of_le (val_lt hb) (Nat.pow_le_pow_right (show 0 < 4294967296 by decide) (show b.length ≤ M by rw [hlb.out]; exact hM2))) (by have h3 := val_lt hlo; rwa [hlen.out, hkM] at h3) (by have := hval.out; rwa [hkM] at this))
      obtain ⟨oo, ocap, rfl, osl⟩ := ownsSl hown
      clear hkM
      have hgo' : M < k := by omega
      rcases Nat.lt_or_ge n m with hnm | hnm
      all_goals
        go_wp2_with fail
        refine (trim_any o _ _ _ _ osl).mono ?_; rintro e w2 ⟨⟨k', rfl, hk', hs'⟩, rfl⟩
        have hs' := hid hs'
        go_wp2_with fail
        go_ret
        exact NumOut.ofOwn hown hlo hres.out hk' hs'.out hbel

end Go.Proofs.Yteancfcmiiddiaa
