/-
  The contract of limbs.minus. Its condition: the second number is at most the first.
-/
import Derived.Test.YteancfcmiiddiaaLimB
namespace Go.Proofs.Yteancfcmiiddiaa
open Go.RowKit

/-- One round of minus. -/
theorem minus_step {a b i c c' z : Nat} {o : List Nat} (hlen : o.length = i) (h : val o + b % 4294967296 ^ i = a % 4294967296 ^ i + 4294967296 ^ i * c) (x y : Nat) (hx : x = a / 4294967296 ^ i % 4294967296) (hy : y = b / 4294967296 ^ i % 4294967296)
    (hz : z + y + c = x + 4294967296 * c') : val (o ++ [z]) + b % 4294967296 ^ (i + 1) = a % 4294967296 ^ (i + 1) + 4294967296 ^ (i + 1) * c' := by
  rw [val_append, hlen, mod_step a i, mod_step b i, ← hx, ← hy, Nat.pow_succ]
  simp only [val]
  generalize 4294967296 ^ i = p at *
  have h2 : p * (z + y + c) = p * (x + 4294967296 * c') := by rw [hz]
  simp only [Nat.mul_add, Nat.mul_zero, Nat.add_zero, ← Nat.mul_assoc] at h2 ⊢
  omega

/-- A row of limbs in the making: k limbs are there. -/
theorem row_cell {w : World} {base : Nat} {e : TypeId} {g n k : Nat} {o : List Nat} (h : w.ownsRow base e 1 (.slice (some ⟨g, 0, none⟩) n n) n (u32s o)) (hk : k < n) : (∃ u, w.cell? ⟨g, k, none⟩ = some u) ∧ w.frozen? ⟨g, k, none⟩ = false := by
  refine ⟨?_, h.frozenAt k⟩
  rw [h.cellAt k (by omega)]
  have := h.1
  exact ⟨(u32s o)[k], by simp⟩

theorem row_store {w : World} {base : Nat} {e : TypeId} {g n k : Nat} {o : List Nat} (h : w.ownsRow base e 1 (.slice (some ⟨g, 0, none⟩) n n) n (u32s o)) (z : Nat) :
    (w.setCell ⟨g, k, none⟩ (.int .u32 (z : Int))).ownsRow base e 1 (.slice (some ⟨g, 0, none⟩) n n) n (u32s (o.set k z)) := by
  have := (h.stored k (.int .u32 (z : Int))).1
  unfold u32s at this ⊢
  rwa [List.map_set]

theorem set_mid {o r : List Nat} {k z y : Nat} (h : o.length = k) : (o ++ y :: r).set k z = (o ++ [z]) ++ r := by
  subst h; simp

set_option maxHeartbeats 1000000 in
theorem minus_any (a b : List Nat) (ha : Lim a) (hb : Lim b) (hle : val b ≤ val a) (ao bo : Option Addr) (n m cap cap' : Nat) (w : World) (hA : Sl w ao n cap (u32s a)) (hB : Sl w bo m cap' (u32s b)) (hn : n ≤ 1099511627776) (_hm : m ≤ 1099511627776) :
    Calls Try.prog 154 #[.slice ao n cap, .slice bo m cap'] w (NumOut w (val a - val b)) := by
  have hla := hid hA.lenU
  have ha' := hid (limb_at ha)
  have hb' := hid (limb_at hb)
  go_enter Try.func154, Try.ntmps154
  go_wp2_with (at_make; go_loud (refine wp_make rfl (.tmp 10) (.tmp 10) 120 rfl 64 _ 4 Try.underlying120 Try.infoU32 rfl _ _ _ _ n rfl rfl rfl rfl (by omega) (by omega) ?_))
  intro w1 hown _ hb1
  go_wp2_with fail
  go_loopw [6, 14] (fun s i wr => ∃ (k c : Nat) (o : List Nat), k ≤ n ∧ i = .int .i64 k ∧ s = .int .u64 c ∧ c ≤ 1 ∧ Hid (o.length = k) ∧ Lim o ∧ Hid (val o + val b % 4294967296 ^ k = val a % 4294967296 ^ k + 4294967296 ^ k * c) ∧
      wr.ownsRow w.heap.size 64 1 (.slice (some ⟨w.heap.size, 0, none⟩) n n) n (u32s (o ++ List.replicate (n - k) 0)) ∧ Below w.heap.size w wr) (fun _ i _ => n - (intOf i).toNat)
  case atStart => exact ⟨0, 0, [], by omega, rfl, rfl, by omega, hid rfl, lim_nil, hid (by simp [val, Nat.mod_one]), by simpa [u32s] using hown, hb1⟩
  case round =>
    clear hown hb1
    obtain ⟨k, c, o, hk, rfl, rfl, hc, hlen, hlo, hval, hown, hbel⟩ := hrel
    by_cases hlt : k < n
    · have hA1 := hA.next hbel
      have hB1 := hB.next hbel
      have hx : val a / 4294967296 ^ k % 4294967296 < 4294967296 := Nat.mod_lt _ (by decide)
      have hy : val b / 4294967296 ^ k % 4294967296 < 4294967296 := Nat.mod_lt _ (by decide)
      have Hst := hid (fun c' z hz => minus_step (c' := c') (z := z) hlen.out hval.out _ _ rfl rfl hz)
      have hga := ha'.out k
      have hgb := hb'.out k
      generalize val a / 4294967296 ^ k % 4294967296 = x at *
      generalize val b / 4294967296 ^ k % 4294967296 = y at *
      have Hga := hid hga; have Hgb := hid hgb
      clear hga hgb
      obtain ⟨⟨u, hcell⟩, hfr⟩ := row_cell hown hlt
      obtain ⟨z, hz⟩ : ∃ z, z = if y + c ≤ x then x - y - c else x + 4294967296 - y - c := ⟨_, rfl⟩
      obtain ⟨c', hc'⟩ : ∃ c', c' = if y + c ≤ x then 0 else 1 := ⟨_, rfl⟩
      have hcz : Hid (z + y + c = x + 4294967296 * c') := hid (by subst hz hc'; split <;> omega)
      have hzl : z < 4294967296 := by subst hz; split <;> omega
      have hcl : c' ≤ 1 := by subst hc'; split <;> omega
      have fin : ∀ wx : World, wx = wr.setCell ⟨w.heap.size, k, none⟩ (.int .u32 (z : Int)) → wx.ownsRow w.heap.size 64 1 (.slice (some ⟨w.heap.size, 0, none⟩) n n) n (u32s ((o ++ [z]) ++ List.replicate (n - (k + 1)) 0)) ∧ Below w.heap.size w wx := fun wx hwx => by
        subst hwx
        refine ⟨?_, hbel.setCell (Nat.le_refl _) _⟩
        have := row_store hown (k := k) z
        rw [show n - k = (n - (k + 1)) + 1 by omega, List.replicate_succ, set_mid hlen.out] at this
        exact this
      have Fin := hid fin; clear fin
      go_wp2_with fail
      refine (at_any a ha k x Hga.out _ _ _ _ hA1).mono ?_; rintro e w1 ⟨rfl, rfl⟩
      go_wp2_with fail
      refine (at_any b hb k y Hgb.out _ _ _ _ hB1).mono ?_; rintro e w1 ⟨rfl, rfl⟩
      by_cases hyc : y + c ≤ x
      · have hz' : (x : Int) - y - c = z := by rw [if_pos hyc] at hz; omega
        have hc0 : c' = 0 := by rw [if_pos hyc] at hc'; exact hc'
        subst hc0
        clear hz hc'
        have hz2 : (z : Int) / 9223372036854775808 = 0 := by omega
        go_wp2_with fail
        go_roundw
        case rel => exact ⟨k + 1, 0, o ++ [z], by omega, by go_num, rfl, by omega, hid (by rw [List.length_append, hlen.out]; rfl), lim_append.2 ⟨hlo, lim_cons.2 ⟨hzl, lim_nil⟩⟩, hid (Hst.out 0 z hcz.out), Fin.out _ rfl⟩
        case measure => simp [intOf]; omega
      · have hzz : z + y + c = x + 4294967296 := by rw [if_neg hyc] at hz; omega
        have hc0 : c' = 1 := by rw [if_neg hyc] at hc'; exact hc'
        subst hc0
        clear hz hc'
        by_cases hyx : y ≤ x
        · obtain ⟨d, hd⟩ : ∃ d : Nat, d = z + 18446744069414584320 := ⟨_, rfl⟩
          have hw : IntKind.u64.wrap ((x : Int) - y - c) = d := by rw [wrapU]; omega
          have hm : (d : Int) % 4294967296 = z := by omega
          have hs : (d : Int) / 9223372036854775808 = 1 := by omega
          clear hd hzz
          go_wp2_with fail
          go_roundw
          case rel => exact ⟨k + 1, 1, o ++ [z], by omega, by go_num, rfl, by omega, hid (by rw [List.length_append, hlen.out]; rfl), lim_append.2 ⟨hlo, lim_cons.2 ⟨hzl, lim_nil⟩⟩, hid (Hst.out 1 z hcz.out), Fin.out _ rfl⟩
          case measure => simp [intOf]; omega
        · obtain ⟨d, hd⟩ : ∃ d : Nat, d = x + 18446744073709551616 - y := ⟨_, rfl⟩
          have hw : IntKind.u64.wrap ((x : Int) - y) = d := by rw [wrapU]; omega
          have hm : ((d : Int) - c) % 4294967296 = z := by omega
          have hs : ((d : Int) - c) / 9223372036854775808 = 1 := by omega
          have hd1 : 1 ≤ d := by omega
          have hd2 : d ≤ 18446744073709551615 := by omega
          clear hd hzz
          go_wp2_with fail
          go_roundw
          case rel => exact ⟨k + 1, 1, o ++ [z], by omega, by go_num, rfl, by omega, hid (by rw [List.length_append, hlen.out]; rfl), lim_append.2 ⟨hlo, lim_cons.2 ⟨hzl, lim_nil⟩⟩, hid (Hst.out 1 z hcz.out), Fin.out _ rfl⟩
          case measure => simp [intOf]; omega
    · obtain rfl : k = n := by omega
      have hres : Hid (val o = val a - val b) := hid (by
        have h1 := hval.out
        have h2 : val a < 4294967296 ^ k := Nat.lt_of_lt_of_le (val_lt ha) (Nat.pow_le_pow_right (by decide) (by rw [hla.out]; omega))
        rw [Nat.mod_eq_of_lt h2, Nat.mod_eq_of_lt (by omega)] at h1
        have h3 := val_lt hlo
        rw [hlen.out] at h3
        by_cases hc1 : c = 0
        · subst hc1; omega
        · obtain rfl : c = 1 := by omega
          omega)
      have hown : wr.ownsRow w.heap.size 64 1 (.slice (some ⟨w.heap.size, 0, none⟩) k k) k (u32s o) := by simpa using hown
      obtain ⟨oo, ocap, hv, osl⟩ := ownsSl hown
      injection hv with e1 e2 e3
      subst e1 e3
      go_wp2_with fail
      refine (clean_any o _ _ _ _ osl).mono ?_; rintro e w2 ⟨⟨k', rfl, hk', hs'⟩, rfl⟩
      have Hs' := hid hs'; clear hs'
      go_wp2_with fail
      go_ret
      exact NumOut.ofOwn hown hlo hres.out hk' Hs'.out hbel

end Go.Proofs.Yteancfcmiiddiaa
