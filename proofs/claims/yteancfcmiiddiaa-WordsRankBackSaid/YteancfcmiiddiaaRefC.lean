/-
  The contract of the reference's minus. Conditions: sizes; what is taken away is at most the number.
-/
import Derived.Test.YteancfcmiiddiaaRefB
namespace Go.Proofs.Yteancfcmiiddiaa
open Go.RowKit

set_option maxHeartbeats 1000000 in
theorem rminus_any (a b : List Nat) (ha : Lim a) (hb : Lim b) (hle : val b ≤ val a) (ao bo : Option Addr) (n m cap cap' : Nat) (w : World) (hA : Sl w ao n cap (u32s a)) (hB : Sl w bo m cap' (u32s b)) (hn : n ≤ 1099511627776) :
    Calls Try.prog 113 #[.slice ao n cap, .slice bo m cap'] w (NumOut w (val a - val b)) := by
  have hla := hid hA.lenU
  have ha' := hid (limb_at ha)
  have hb' := hid (limb_at hb)
  go_enter Try.func113, Try.ntmps113
  go_wp2_with fail
  go_loopw [5, 6, 7] (fun v s i wr => ∃ (k c : Nat) (o : List Nat), k ≤ n ∧ i = .int .i64 k ∧ s = .int .u64 c ∧ c ≤ 1 ∧ Hid (o.length = k) ∧ Lim o ∧ Hid (val o + val b % 4294967296 ^ k = val a % 4294967296 ^ k + 4294967296 ^ k * c) ∧
      wr.ownsRow w.heap.size 64 1 v k (u32s o) ∧ Below w.heap.size w wr) (fun _ _ i _ => n - (intOf i).toNat)
  case atStart => exact ⟨0, 0, [], by omega, rfl, rfl, by omega, hid rfl, lim_nil, hid (by simp [val, Nat.mod_one]), World.ownsRow_nil _ _ _ _, Below.refl _ _⟩
  case round =>
    obtain ⟨k, c, o, hk, rfl, rfl, hc, hlen, hlo, hval, hown, hbel⟩ := hrel
    by_cases hlt : k < n
    · have hA1 := hA.next hbel
      have hB1 := hB.next hbel
      have hx : val a / 4294967296 ^ k % 4294967296 < 4294967296 := Nat.mod_lt _ (by decide)
      have hy : val b / 4294967296 ^ k % 4294967296 < 4294967296 := Nat.mod_lt _ (by decide)
      have Hst := hid (fun c' z hz => minus_step (c' := c') (z := z) hlen.out hval.out _ _ rfl rfl hz)
      have hga := ha'.out k
      have hgb := hb'.out k
      generalize val a / 4294967296 ^ k % 4294967296 = x at *
      generalize val b / 4294967296 ^ k % 4294967296 = y at *
      have Hga := hid hga; have Hgb := hid hgb
      clear hga hgb
      obtain ⟨d, hd⟩ : ∃ d : Nat, (x : Int) + 4294967296 - y - c = d := ⟨x + 4294967296 - y - c, by omega⟩
      have hdb : d < 8589934592 := by omega
      obtain ⟨z, hz⟩ : ∃ z : Nat, (d : Int) % 4294967296 = z := ⟨d % 4294967296, rfl⟩
      obtain ⟨c', hc'⟩ : ∃ c' : Nat, 1 - (d : Int) / 4294967296 = c' := ⟨1 - d / 4294967296, by omega⟩
      have hzl : z < 4294967296 := by omega
      have hcl : c' ≤ 1 := by omega
      have hcz : Hid (z + y + c = x + 4294967296 * c') := hid (by omega)
      have hd0 : 0 ≤ (x : Int) + 4294967296 - y := by omega
      have hlit : Sl (wr.alloc (.cells #[.int .u32 (z : Int)] 64)) (some ⟨wr.heap.size, 0, none⟩) 1 1 (u32s [z]) := (one_limb (w := wr) z hzl).1
      go_wp2_with fail
      refine (limb_any a ha _ k x rfl Hga.out _ _ _ _ hA1).mono ?_; rintro e w1 ⟨rfl, rfl⟩
      go_wp2_with fail
      refine (limb_any b hb _ k y rfl Hgb.out _ _ _ _ hB1).mono ?_; rintro e w1 ⟨rfl, rfl⟩
      go_wp2_with (at_builtin; go_loud (refine wp_app rfl (.tmp 25) (.tmp 28) 52 rfl 64 _ 4 Try.underlying52 Try.infoU32 rfl w.heap.size _ k _ rfl (hown.alloc _) _ 1 1 _ rfl hlit (fun h => by cases h) (u32s_one _) (by omega) (by omega) (by have := hbel.size; simp only [World.size_alloc]; omega) ?_))
      intro v' w2 hown2 hg2 hb2
      have hbel2 : Below w.heap.size w w2 := (hbel.alloc hbel.size _).trans hb2
      go_wp2_with fail
      go_roundw
      case rel => exact ⟨k + 1, c', o ++ [z], by omega, by go_num, rfl, by omega, hid (by rw [List.length_append, hlen.out]; rfl), lim_append.2 ⟨hlo, lim_cons.2 ⟨hzl, lim_nil⟩⟩, hid (Hst.out c' z hcz.out), by simpa [u32s] using hown2, hbel2⟩
      case measure => simp [intOf]; omega
    · obtain rfl : k = n := by omega
      have hres : Hid (val o = val a - val b) := hid (minus_end (p := 4294967296 ^ k) (Nat.lt_of_lt_of_le (val_lt ha) (Nat.pow_le_pow_right (by decide) (by rw [hla.out]; omega))) hle (by have h3 := val_lt hlo; rwa [hlen.out] at h3) hval.out)
      obtain ⟨oo, ocap, rfl, osl⟩ := ownsSl hown
      go_wp2_with fail
      refine (trim_any o _ _ _ _ osl).mono ?_; rintro e w2 ⟨⟨k', rfl, hk', hs'⟩, rfl⟩
      have hs' := hid hs'
      go_wp2_with fail
      go_ret
      exact NumOut.ofOwn hown hlo hres.out hk' hs'.out hbel

end Go.Proofs.Yteancfcmiiddiaa
