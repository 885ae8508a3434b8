/-
  The contract of the reference's times. No condition but sizes.
-/
import Derived.Test.YteancfcmiiddiaaRefC
namespace Go.Proofs.Yteancfcmiiddiaa
open Go.RowKit

/-- The last limb of a round. -/
theorem times_last {a b i m c : Nat} {o : List Nat} (ht : o[i + m]? = some 0) (h : val o + 4294967296 ^ (i + m) * c = (a % 4294967296 ^ i) * b + 4294967296 ^ i * (a / 4294967296 ^ i % 4294967296) * (b % 4294967296 ^ m)) (hb : b < 4294967296 ^ m) :
    val (o.set (i + m) c) = (a % 4294967296 ^ (i + 1)) * b := by
  have h1 := val_set (z := c) ht
  rw [Nat.mul_zero, Nat.add_zero] at h1
  rw [h1, h, Nat.mod_eq_of_lt hb, mod_step a i, Nat.add_mul]

theorem zero_at {o : List Nat} {B i m a b k : Nat} (hB : B = 4294967296) (hl : Lim o) (ho : val o = a * b) (ha : a < B ^ i) (hb : b < B ^ m) (hlen : o.length = k) (hk : i + m < k) : o[i + m]? = some 0 := by
  have h1 := limb_at hl (i + m)
  rw [← hB, Nat.pow_add, Nat.div_eq_of_lt (by
    rw [ho]
    by_cases h0 : b = 0
    · subst h0; rw [Nat.mul_zero]; exact Nat.mul_pos (by omega) (by omega)
    · exact Nat.mul_lt_mul_of_lt_of_le ha (Nat.le_of_lt hb) (by omega))] at h1
  rw [List.getD, List.getElem?_eq_getElem (show i + m < o.length by omega)] at h1
  rw [List.getElem?_eq_getElem (show i + m < o.length by omega)]
  simpa using h1

set_option maxHeartbeats 2000000 in
theorem rtimes_any (a b : List Nat) (ha : Lim a) (hb : Lim b) (ao bo : Option Addr) (n m cap cap' : Nat) (w : World) (hA : Sl w ao n cap (u32s a)) (hB : Sl w bo m cap' (u32s b)) (hn : n ≤ 1099511627776) (hm : m ≤ 1099511627776) :
    Calls Try.prog 108 #[.slice ao n cap, .slice bo m cap'] w (NumOut w (val a * val b)) := by
  have hla := hid hA.lenU
  have hlb := hid hB.lenU
  have ha' := hid (limb_at ha)
  have hb' := hid (limb_at hb)
  have hvb : Hid (val b < 4294967296 ^ m) := hid (by have := val_lt hb; rwa [hlb.out] at this)
  obtain ⟨N, hN1, hN2⟩ : ∃ N, n + m ≤ N ∧ N ≤ n + m := ⟨n + m, Nat.le_refl _, Nat.le_refl _⟩
  go_enter Try.func108, Try.ntmps108
  go_wp2_with (at_make; go_loud (refine wp_make rfl (.tmp 14) (.tmp 14) 52 rfl 64 _ 4 Try.underlying52 Try.infoU32 rfl _ _ _ _ N rfl rfl (by omega) (by omega) (by omega) (by omega) ?_))
  intro w1 hown _ hb1
  go_wp2_with fail
  go_loopw [6] (fun i wr => ∃ (k : Nat) (o : List Nat), k ≤ n ∧ i = .int .i64 k ∧ Lim o ∧ Hid (o.length = N) ∧ Hid (val o = val a % 4294967296 ^ k * val b) ∧
      wr.ownsRow w.heap.size 64 1 (.slice (some ⟨w.heap.size, 0, none⟩) N N) N (u32s o) ∧ Below w.heap.size w wr) (fun i _ => n - (intOf i).toNat)
  case atStart => exact ⟨0, List.replicate N 0, by omega, rfl, fun x hx => by rw [(List.mem_replicate.1 hx).2]; decide, hid (by simp), hid (by
    have : ∀ j, val (List.replicate j 0) = 0 := fun j => by induction j with | zero => rfl | succ j ih => simp [List.replicate_succ, val, ih]
    rw [this]; simp [Nat.mod_one]), by simpa [u32s] using hown, hb1⟩
  case round =>
    clear hown hb1
    obtain ⟨k, o, hk, rfl, hlo, hoN, hval, hown, hbel⟩ := hrel
    by_cases hlt : k < n
    · have hz : Hid (o[k + m]? = some 0) := hid (zero_at rfl hlo hval.out (Nat.mod_lt _ (Nat.pow_pos (by decide))) hvb.out hoN.out (by omega))
      go_wp2_with fail
      obtain ⟨wo, hwo⟩ : ∃ wo : World, wo = wr := ⟨_, rfl⟩
      subst hwo
      go_loopw [7, 8, 9] (fun s j _ wr => ∃ (l c : Nat) (o : List Nat), l ≤ m ∧ j = .int .i64 l ∧ s = .int .u64 c ∧ c < 4294967296 ∧ Lim o ∧ Hid (o.length = N) ∧ Hid (o[k + m]? = some 0) ∧
          Hid (val o + 4294967296 ^ (k + l) * c = (val a % 4294967296 ^ k) * val b + 4294967296 ^ k * (val a / 4294967296 ^ k % 4294967296) * (val b % 4294967296 ^ l)) ∧
          wr.ownsRow w.heap.size 64 1 (.slice (some ⟨w.heap.size, 0, none⟩) N N) N (u32s o) ∧ Below w.heap.size w wr) (fun _ j _ _ => m - (intOf j).toNat)
      case atStart => exact ⟨0, 0, o, by omega, rfl, rfl, by omega, hlo, hoN, hz, hid (by rw [hval.out]; simp [Nat.mod_one]), hown, hbel⟩
      case round =>
        clear hown hbel hlo hval hz hoN
        obtain ⟨l, c, o', hl, rfl, rfl, hc, hlo, hoN, hz, hval, hown, hbel⟩ := hrel
        by_cases hlm : l < m
        · have hA1 := hA.next hbel
          have hB1 := hB.next hbel
          obtain ⟨t, ht, hcell, hfr⟩ := row_at hown (show k + l < N by omega)
          have htl := hlo t (List.mem_of_getElem? ht)
          obtain ⟨x, hx', bx, ox, rfl, hcx⟩ := hA1.u32 hlt
          obtain ⟨y, hy', byy, oy, rfl, hcy⟩ := hB1.u32 hlm
          have hx := ha x (List.mem_of_getElem? hx')
          have hy := hb y (List.mem_of_getElem? hy')
          have hga : val a / 4294967296 ^ k % 4294967296 = x := by rw [← ha'.out, List.getD, hx']; rfl
          have hgb : val b / 4294967296 ^ l % 4294967296 = y := by rw [← hb'.out, List.getD, hy']; rfl
          have hst := times_step ht hval.out hgb.symm
          rw [hga] at hst
          have hz2 : Hid ((o'.set (k + l) ((x * y + t + c) % 4294967296))[k + m]? = some 0) := hid (by rw [List.getElem?_set_ne (by omega)]; exact hz.out)
          obtain ⟨p, hp⟩ : ∃ p, x * y = p := ⟨_, rfl⟩
          have hpb : p ≤ 18446744065119617025 := by
            rw [← hp]; exact Nat.le_trans (Nat.mul_le_mul (show x ≤ 4294967295 by omega) (show y ≤ 4294967295 by omega)) (by decide)
          have hpi : (x : Int) * (y : Int) = (p : Int) := by rw [← hp]; rfl
          rw [hp] at hst hz2
          rw [show c + (t + p) = p + t + c by omega] at hst
          have Hga := hid hga
          have Hst := hid hst; have Hp := hid hp
          clear hst hga hgb hp ht hx' hy'
          have fin : ∀ (nq : Nat), ((wr.drewN nq).setCell ⟨w.heap.size, k + l, none⟩ (.int .u32 (((p : Int) + (t : Int) + (c : Int)) % 4294967296))).ownsRow w.heap.size 64 1 (.slice (some ⟨w.heap.size, 0, none⟩) N N) N (u32s (o'.set (k + l) ((p + t + c) % 4294967296))) ∧
              Below w.heap.size w ((wr.drewN nq).setCell ⟨w.heap.size, k + l, none⟩ (.int .u32 (((p : Int) + (t : Int) + (c : Int)) % 4294967296))) := fun nq => by
            refine ⟨?_, (below_drewN hbel nq).setCell (Nat.le_refl _) _⟩
            have h1 : (wr.drewN nq).ownsRow w.heap.size 64 1 (.slice (some ⟨w.heap.size, 0, none⟩) N N) N (u32s o') := hown
            have := row_store h1 (k := k + l) ((p + t + c) % 4294967296)
            rwa [show (((p + t + c) % 4294967296 : Nat) : Int) = ((p : Int) + (t : Int) + (c : Int)) % 4294967296 by simp] at this
          have Fin := hid fin; clear fin
          go_wp2_with fail
          go_quiet (fail)
          go_wp2_with fail
          go_roundw
          case rel => exact ⟨l + 1, (p + t + c) / 4294967296, o'.set (k + l) ((p + t + c) % 4294967296), by omega, by go_num, by simp, by omega, lim_set hlo (Nat.mod_lt _ (by decide)), hid (by rw [List.length_set]; exact hoN.out), hz2, by rw [Hga.out]; exact Hst, (Fin.out _).1, (Fin.out _).2⟩
          case measure => simp [intOf]; omega
        · obtain rfl : l = m := by omega
          have hend := hid (times_last hz.out hval.out hvb.out)
          have hcell := (row_cell hown (show k + l < N by omega)).1
          have hfr := (row_cell hown (show k + l < N by omega)).2
          obtain ⟨u, hcell⟩ := hcell
          have fin : (wr.setCell ⟨w.heap.size, k + l, none⟩ (.int .u32 (c : Int))).ownsRow w.heap.size 64 1 (.slice (some ⟨w.heap.size, 0, none⟩) N N) N (u32s (o'.set (k + l) c)) ∧
              Below w.heap.size w (wr.setCell ⟨w.heap.size, k + l, none⟩ (.int .u32 (c : Int))) := ⟨row_store hown c, hbel.setCell (Nat.le_refl _) _⟩
          have Fin := hid fin; clear fin
          go_wp2_with fail
          go_roundw
          case rel => exact ⟨k + 1, o'.set (k + l) c, by omega, by go_num, lim_set hlo hc, hid (by rw [List.length_set]; exact hoN.out), hend, Fin.out.1, Fin.out.2⟩
          case measure => simp [intOf]; omega
    · obtain rfl : k = n := by omega
      have hres : Hid (val o = val a * val b) := hid (by
        have h1 := hval.out
        rwa [Nat.mod_eq_of_lt (Nat.lt_of_lt_of_le (val_lt ha) (Nat.pow_le_pow_right (by decide) (by rw [hla.out]; omega)))] at h1)
      obtain ⟨oo, ocap, hv, osl⟩ := ownsSl hown
      injection hv with e1 e2 e3
      subst e1 e3
      go_wp2_with fail
      refine (trim_any o _ _ _ _ osl).mono ?_; rintro e w2 ⟨⟨k', rfl, hk', hs'⟩, rfl⟩
      have Hs' := hid hs'; clear hs'
      go_wp2_with fail
      go_ret
      exact NumOut.ofOwn hown hlo hres.out hk' Hs'.out hbel

end Go.Proofs.Yteancfcmiiddiaa
