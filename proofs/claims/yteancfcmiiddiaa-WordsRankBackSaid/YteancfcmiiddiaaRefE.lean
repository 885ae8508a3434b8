/-
  The contract of the reference's divide. Its condition: the divisor is not 0.
-/
import Derived.Test.YteancfcmiiddiaaRefD
import Derived.Test.YteancfcmiiddiaaRefP
namespace Go.Proofs.Yteancfcmiiddiaa
open Go.RowKit
set_option linter.unusedVariables false

section
variable {w : World} {ao bo : Option Addr} {n m cap cap' : Nat}
theorem rplusD (a b : Nat) (hA : Sl w ao n cap (u32s (dig a))) (hB : Sl w bo m cap' (u32s (dig b))) (hn : n ≤ 1099511627776) (hm : m ≤ 1099511627776) :
    Calls Try.prog 111 #[.slice ao n cap, .slice bo m cap'] w (NumOut w (a + b)) := by
  have := rplus_any _ _ (lim_dig a) (lim_dig b) _ _ _ _ _ _ _ hA hB hn hm
  rwa [val_dig, val_dig] at this
theorem rminusD (a b : Nat) (hle : b ≤ a) (hA : Sl w ao n cap (u32s (dig a))) (hB : Sl w bo m cap' (u32s (dig b))) (hn : n ≤ 1099511627776) :
    Calls Try.prog 113 #[.slice ao n cap, .slice bo m cap'] w (NumOut w (a - b)) := by
  have := rminus_any _ _ (lim_dig a) (lim_dig b) (by rw [val_dig, val_dig]; exact hle) _ _ _ _ _ _ _ hA hB hn
  rwa [val_dig, val_dig] at this
theorem rtimesD (a b : Nat) (hA : Sl w ao n cap (u32s (dig a))) (hB : Sl w bo m cap' (u32s (dig b))) (hn : n ≤ 1099511627776) (hm : m ≤ 1099511627776) :
    Calls Try.prog 108 #[.slice ao n cap, .slice bo m cap'] w (NumOut w (a * b)) := by
  have := rtimes_any _ _ (lim_dig a) (lim_dig b) _ _ _ _ _ _ _ hA hB hn hm
  rwa [val_dig, val_dig] at this
end

/-- The facts of a limb that is read and of one that is written. -/
theorem bit_read {a j s x : Nat} (hs : s < 32) (hx : x = a / 4294967296 ^ j % 4294967296) : ∃ y t : Nat, (x : Int) / 2 ^ s = (y : Int) ∧ bits .and .u32 (y : Int) 1 = (t : Int) ∧ t = a / 2 ^ (32 * j + s) % 2 := by
  have hb := bit_core (B := 4294967296) (by decide) hs hx
  have hx2 : x < 4294967296 := by rw [hx]; exact Nat.mod_lt _ (by decide)
  refine ⟨x / 2 ^ s, x / 2 ^ s % 2, by rw [Int.natCast_ediv, Int.natCast_pow]; rfl, ?_, hb⟩
  rw [show (1 : Int) = ((1 : Nat) : Int) from rfl, u32_and_nat _ _ (Nat.lt_of_le_of_lt (Nat.div_le_self _ _) hx2) (by decide), Nat.and_one_is_mod]

theorem bit_write {Q N j s x : Nat} (hs : s < 32) (hN : N = Q * 2 ^ (32 * j + s + 1)) (hx : x = N / 4294967296 ^ j % 4294967296) :
    ∃ z : Nat, bits .or .u32 (x : Int) (2 ^ s % 4294967296) = (z : Int) ∧ z < 4294967296 ∧ z = x + 2 ^ s ∧ 4294967296 ^ j * 2 ^ s = 2 ^ (32 * j + s) := by
  obtain ⟨y, h1, h2, h3⟩ := set_core (B := 4294967296) (by decide) hs hN hx
  have h4 : x < 4294967296 := by omega
  have h5 : 2 ^ s < 4294967296 := by omega
  refine ⟨x + 2 ^ s, ?_, h2, rfl, h3⟩
  rw [show (2 : Int) ^ s % 4294967296 = ((2 ^ s : Nat) : Int) by
        have e : ((2 ^ s : Nat) : Int) = (2 : Int) ^ s := by rw [Int.natCast_pow]; rfl
        rw [← e]; exact (fun (q : Nat) (h : q < 4294967296) => (by omega : (q : Int) % 4294967296 = q)) _ h5, u32_or_nat _ _ h4 h5, or_bit h1]

theorem pow_half (Q j : Nat) : Q * 2 ^ (j + 1) = 2 * Q * 2 ^ j := by rw [Nat.pow_succ, Nat.mul_comm (2 ^ j), ← Nat.mul_assoc, Nat.mul_comm Q]

set_option maxHeartbeats 2000000 in
theorem divide_any (a b : Nat) (hb : b ≠ 0) (ao bo : Option Addr) (n m cap cap' : Nat) (w : World) (hA : Sl w ao n cap (u32s (dig a))) (hB : Sl w bo m cap' (u32s (dig b))) (hn : n ≤ 17179869184) (hm : m ≤ 17179869184) :
    Calls Try.prog 143 #[.slice ao n cap, .slice bo m cap'] w (DivOut w (a / b) (a % b)) := by
  have hla := hid hA.lenU
  have hlb := hid hB.lenU
  have hb0 : 0 < b := Nat.pos_of_ne_zero hb
  go_enter Try.func143, Try.ntmps143
  go_wp2_with (at_make; go_loud (refine wp_make rfl (.tmp 10) (.tmp 10) 52 rfl 64 _ 4 Try.underlying52 Try.infoU32 rfl _ _ _ _ n rfl rfl rfl rfl (by omega) (by omega) ?_))
  intro w1 hown _ hb1
  go_wp2_with fail
  go_loopw [7, 8] (fun rv i wr => ∃ (k R : Nat) (o : List Nat) (ro : Option Addr) (rn rc : Nat), k ≤ 32 * n ∧ i = .int .i64 ((k : Int) - 1) ∧ Hid (R = a / 2 ^ k % b) ∧ Hid (val o = a / 2 ^ k / b * 2 ^ k) ∧ Lim o ∧
      rv = .slice ro rn rc ∧ Sl wr ro rn rc (u32s (dig R)) ∧ (ro = none → rc = 0) ∧
      wr.ownsRow w.heap.size 64 1 (.slice (some ⟨w.heap.size, 0, none⟩) n n) n (u32s o) ∧ Below w.heap.size w wr) (fun _ i _ => (intOf i + 1).toNat)
  case atStart =>
    have h0 : a / 2 ^ (32 * n) = 0 := Nat.div_eq_of_lt (by have := dig_lt a; rw [hla.out] at this; rw [Nat.pow_mul]; exact this)
    refine ⟨32 * n, 0, List.replicate n 0, none, 0, 0, Nat.le_refl _, by simp, hid (by rw [h0]; simp), hid ?_, fun x hx => by rw [(List.mem_replicate.1 hx).2]; decide, rfl, by rw [dig_zero]; exact Sl.nil _, fun _ => rfl, by simpa [u32s] using hown, hb1⟩
    have : ∀ j, val (List.replicate j 0) = 0 := fun j => by induction j with | zero => rfl | succ j ih => simp [List.replicate_succ, val, ih]
    rw [this, h0]; simp
  case round =>
    clear hown hb1
    obtain ⟨k, R, o, ro, rn, rc, hk, rfl, hR, hval, hlo, rfl, sR, hz, hown, hbel⟩ := hrel
    cases k with
    | zero =>
      have hres : Hid (val o = a / b) := hid (by have := hval.out; simpa using this)
      have hrr : R = a % b := by have := hR.out; simpa using this
      subst hrr
      obtain ⟨oo, ocap, hv, osl⟩ := ownsSl hown
      injection hv with e1 e2 e3
      subst e1 e3
      go_wp2_with fail
      refine (trim_any o _ _ _ _ osl).mono ?_; rintro e w2 ⟨⟨k', rfl, hk', hs'⟩, rfl⟩
      have Hs' := hid hs'; clear hs'
      go_wp2_with fail
      go_ret2
      obtain ⟨_, _, _, he, hs, hz', _, _⟩ := NumOut.ofOwn hown hlo hres.out hk' Hs'.out hbel
      injection he with he
      injection he with e1 e2 e3
      subst e1 e2 e3
      exact ⟨_, _, _, _, _, _, rfl, hs, sR, hz', hz, hbel⟩
    | succ j =>
      have hj : ((j + 1 : Nat) : Int) - 1 = j := by omega
      rw [hj]
      clear hj
      obtain ⟨K, hK⟩ : ∃ K : Nat, (j : Int) / 32 = K := ⟨j / 32, rfl⟩
      obtain ⟨s, hs⟩ : ∃ s : Nat, (j : Int) % 32 = s := ⟨j % 32, rfl⟩
      have hjk : j = 32 * K + s := by omega
      have hs32 : s < 32 := by omega
      have hKn : K < n := by omega
      have hA1 := hA.next hbel
      have hB1 := hB.next hbel
      obtain ⟨x, hx', bx, ox, rfl, hcx⟩ := hA1.u32 hKn
      have hxe : x = a / 4294967296 ^ K % 4294967296 := by rw [← dig_at, List.getD, hx']; rfl
      obtain ⟨y, t, hy, ht, htt⟩ := bit_read hs32 hxe
      rw [← hjk] at htt
      clear hx' hxe
      have hrn : rn ≤ m := by
        rw [← sR.lenU, ← hlb.out]
        exact dig_len_mono (Nat.le_of_lt (by rw [hR.out]; exact Nat.mod_lt _ hb0))
      have ht2 : t < 2 := by omega
      obtain ⟨b1, b2⟩ := bit_step (p := a / 2 ^ (j + 1)) hb0 rfl rfl ht2
      have htw := two_step a j
      rw [← htt] at htw
      rw [← htw, ← hR.out] at b1 b2
      have Hjk := hid hjk
      have B1 := hid b1; have B2 := hid b2
      clear htt b1 b2 htw hjk
      have hG : w.heap.size < wr.heap.size := by
        rcases hown.2 with ⟨hv, _⟩ | ⟨g, c, cur, hv, _, hg, _⟩
        · cases hv
        · injection hv with e1 _ _
          injection e1 with e1
          injection e1 with e1 _ _
          subst e1
          exact (Array.getElem?_eq_some_iff.1 hg).1
      obtain ⟨x0, hx0, _, _⟩ := row_at hown hKn
      have hx0e : x0 = val o / 4294967296 ^ K % 4294967296 := by rw [← limb_at hlo, List.getD, hx0]; rfl
      obtain ⟨z, hz1, hzl, hz2, hz3⟩ := bit_write hs32 (by rw [hval.out, Hjk.out]) hx0e
      have hset : val (o.set K z) = val o + 2 ^ j := by
        have h1 := val_set (z := z) hx0
        rw [hz2, Nat.mul_add, hz3, ← Hjk.out] at h1
        rw [hz2]
        omega
      have Hset := hid hset
      have Hx0 := hid hx0
      clear hset hx0 hx0e hz2 hz3
      have B1 : Hid (b ≤ R + R + t → a / 2 ^ j / b = 2 * (a / 2 ^ (j + 1) / b) + 1 ∧ R + R + t - b = a / 2 ^ j % b) := hid (fun h => by have := B1.out (by omega); exact ⟨this.1, by rw [this.2]; omega⟩)
      have B2 : Hid (¬ b ≤ R + R + t → a / 2 ^ j / b = 2 * (a / 2 ^ (j + 1) / b) ∧ R + R + t = a / 2 ^ j % b) := hid (fun h => by have := B2.out (by omega); exact ⟨this.1, by rw [this.2]; omega⟩)
      have hlR : lim (R + R) ≤ m + 1 := lim_add (by rw [← sR.lenU] at hrn; exact hrn) (by rw [← sR.lenU] at hrn; exact hrn)
      have hl1 : lim (R + R + 1) ≤ m + 2 := lim_add hlR (by rw [lim_one]; omega)
      go_wp2_with fail
      refine (rplusD R R sR sR (by omega) (by omega)).mono ?_; rintro e w2 ⟨po, pn, pc, rfl, sP, hzp, hbp, hfp⟩
      have hcx2 := cell_later hbp hcx
      have hpn : pn ≤ m + 2 := by rw [← sP.lenU]; exact Nat.le_trans hlR (by omega)
      have hbel2 := hbel.trans (hbp.mono hbel.size)
      rcases (show t = 0 ∨ t = 1 by omega) with rfl | rfl
      · go_wp2_with fail
        refine (compare_any _ _ _ _ _ _ _ _ _ sP (hB1.next (hbp))).mono ?_; rintro e w4 ⟨rfl, q, rfl⟩
        by_cases hge : b ≤ R + R
        · have hd : decide (0 ≤ ord (R + R) b) = true := by
            rw [decide_eq_true_eq]; unfold ord; rw [if_neg (by omega)]; split <;> decide
          obtain ⟨f1, f2⟩ := B1.out hge
          have F1 := hid f1; have F2 := hid f2
          have hlm : R + R - b ≤ R + R := Nat.sub_le _ _
          clear f1 f2
          go_wp2_with fail
          refine (rminusD (R + R) b hge (sP.drewN q) ((hB1.next (hbp)).drewN q) (by omega)).mono ?_; rintro e w5 ⟨mo, mn, mc, rfl, sM, hzm, hbm, hfm⟩
          have hb5 : Below wr.heap.size wr w5 := ((below_drewN (hbp) q)).trans (hbm.mono (by have := (hbp).size; simpa using this))
          have hown5 := ownsRow_below hown hb5 (Nat.le_refl _)
          obtain ⟨x0', hx0', hcell, hfr⟩ := row_at hown5 hKn
          obtain rfl : x0' = x0 := by have := hx0'.symm.trans Hx0.out; simpa using this
          have hbel5 := hbel.trans (hb5.mono hbel.size)
          have fin : (w5.setCell ⟨w.heap.size, K, none⟩ (.int .u32 (z : Int))).ownsRow w.heap.size 64 1 (.slice (some ⟨w.heap.size, 0, none⟩) n n) n (u32s (o.set K z)) ∧
              Below w.heap.size w (w5.setCell ⟨w.heap.size, K, none⟩ (.int .u32 (z : Int))) ∧ Sl (w5.setCell ⟨w.heap.size, K, none⟩ (.int .u32 (z : Int))) mo mn mc (u32s (dig (R + R - b))) :=
            ⟨row_store hown5 z, hbel5.setCell (Nat.le_refl _) _, sM.setCell (Off.fresh hfm (Nat.lt_of_lt_of_le hG (hbp).size)) _ _⟩
          have hval2 : Hid (val (o.set K z) = a / 2 ^ j / b * 2 ^ j) := hid (by rw [Hset.out, F1.out, Nat.add_mul, Nat.one_mul, hval.out, pow_half])
          have Fin := hid fin; clear fin hx0'
          go_wp2_with fail
          go_roundw
          case rel => exact ⟨j, R + R - b, o.set K z, mo, mn, mc, by omega, rfl, F2, hval2, lim_set hlo hzl, rfl, Fin.out.2.2, hzm, Fin.out.1, Fin.out.2.1⟩
          case measure => simp [intOf]
        · have hd : decide (0 ≤ ord (R + R) b) = false := by
            rw [decide_eq_false_iff_not]; unfold ord; rw [if_pos (by omega)]; decide
          obtain ⟨f1, f2⟩ := B2.out hge
          have F1 := hid f1; have F2 := hid f2
          have hval2 : Hid (val o = a / 2 ^ j / b * 2 ^ j) := hid (by rw [F1.out, hval.out, pow_half])
          have Fin := hid ((show (w.ownsRow w.heap.size 64 1 (.slice none 0 0) 0 []) from World.ownsRow_nil _ _ _ _))
          have hownq := ownsRow_below hown (below_drewN (hbp) q) (Nat.le_refl _)
          have sPq := sP.drewN q
          have hbelq := below_drewN (hbel2) q
          clear f1 f2 Fin
          go_wp2_with fail
          go_roundw
          case rel => exact ⟨j, R + R, o, po, pn, pc, by omega, rfl, F2, hval2, hlo, rfl, sPq, hzp, hownq, hbelq⟩
          case measure => simp [intOf]
      · go_wp2_with fail
        have s1 := (one_limb (w := w2) 1 (by decide)).1
        have h1 : [1] = dig 1 := by rw [dig_pos (by decide), dig_zero]
        rw [h1] at s1
        clear h1
        refine (rplusD (R + R) 1 (sP.next (below_alloc _)) s1 (by omega) (by omega)).mono ?_; rintro e w3 ⟨po, pn, pc, rfl, sP, hzp, hbp', hfp⟩
        have hpn : pn ≤ m + 2 := by rw [← sP.lenU]; exact hl1
        go_wp2_with fail
        have hbp3 : Below wr.heap.size wr w3 := (hbp.alloc hbp.size _).trans (hbp'.mono (by have := hbp.size; simp only [World.size_alloc]; omega))
        have hbel3 := hbel.trans (hbp3.mono hbel.size)
        refine (compare_any _ _ _ _ _ _ _ _ _ sP (hB1.next (hbp3))).mono ?_; rintro e w4 ⟨rfl, q, rfl⟩
        by_cases hge : b ≤ R + R + 1
        · have hd : decide (0 ≤ ord (R + R + 1) b) = true := by
            rw [decide_eq_true_eq]; unfold ord; rw [if_neg (by omega)]; split <;> decide
          obtain ⟨f1, f2⟩ := B1.out hge
          have F1 := hid f1; have F2 := hid f2
          have hlm : R + R + 1 - b ≤ R + R + 1 := Nat.sub_le _ _
          clear f1 f2
          go_wp2_with fail
          refine (rminusD (R + R + 1) b hge (sP.drewN q) ((hB1.next (hbp3)).drewN q) (by omega)).mono ?_; rintro e w5 ⟨mo, mn, mc, rfl, sM, hzm, hbm, hfm⟩
          have hb5 : Below wr.heap.size wr w5 := ((below_drewN (hbp3) q)).trans (hbm.mono (by have := (hbp3).size; simpa using this))
          have hown5 := ownsRow_below hown hb5 (Nat.le_refl _)
          obtain ⟨x0', hx0', hcell, hfr⟩ := row_at hown5 hKn
          obtain rfl : x0' = x0 := by have := hx0'.symm.trans Hx0.out; simpa using this
          have hbel5 := hbel.trans (hb5.mono hbel.size)
          have fin : (w5.setCell ⟨w.heap.size, K, none⟩ (.int .u32 (z : Int))).ownsRow w.heap.size 64 1 (.slice (some ⟨w.heap.size, 0, none⟩) n n) n (u32s (o.set K z)) ∧
              Below w.heap.size w (w5.setCell ⟨w.heap.size, K, none⟩ (.int .u32 (z : Int))) ∧ Sl (w5.setCell ⟨w.heap.size, K, none⟩ (.int .u32 (z : Int))) mo mn mc (u32s (dig (R + R + 1 - b))) :=
            ⟨row_store hown5 z, hbel5.setCell (Nat.le_refl _) _, sM.setCell (Off.fresh hfm (Nat.lt_of_lt_of_le hG (hbp3).size)) _ _⟩
          have hval2 : Hid (val (o.set K z) = a / 2 ^ j / b * 2 ^ j) := hid (by rw [Hset.out, F1.out, Nat.add_mul, Nat.one_mul, hval.out, pow_half])
          have Fin := hid fin; clear fin hx0'
          go_wp2_with fail
          go_roundw
          case rel => exact ⟨j, R + R + 1 - b, o.set K z, mo, mn, mc, by omega, rfl, F2, hval2, lim_set hlo hzl, rfl, Fin.out.2.2, hzm, Fin.out.1, Fin.out.2.1⟩
          case measure => simp [intOf]
        · have hd : decide (0 ≤ ord (R + R + 1) b) = false := by
            rw [decide_eq_false_iff_not]; unfold ord; rw [if_pos (by omega)]; decide
          obtain ⟨f1, f2⟩ := B2.out hge
          have F1 := hid f1; have F2 := hid f2
          have hval2 : Hid (val o = a / 2 ^ j / b * 2 ^ j) := hid (by rw [F1.out, hval.out, pow_half])
          have Fin := hid ((show (w.ownsRow w.heap.size 64 1 (.slice none 0 0) 0 []) from World.ownsRow_nil _ _ _ _))
          have hownq := ownsRow_below hown (below_drewN (hbp3) q) (Nat.le_refl _)
          have sPq := sP.drewN q
          have hbelq := below_drewN (hbel3) q
          clear f1 f2 Fin
          go_wp2_with fail
          go_roundw
          case rel => exact ⟨j, R + R + 1, o, po, pn, pc, by omega, rfl, F2, hval2, hlo, rfl, sPq, hzp, hownq, hbelq⟩
          case measure => simp [intOf]

end Go.Proofs.Yteancfcmiiddiaa
