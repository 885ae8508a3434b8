/-
  The contract of limbs.times. No condition but sizes.
-/
import Derived.Test.YteancfcmiiddiaaLimD
namespace Go.Proofs.Yteancfcmiiddiaa
open Go.RowKit

theorem row_at {w : World} {base : Nat} {e : TypeId} {g n k : Nat} {o : List Nat} (h : w.ownsRow base e 1 (.slice (some ⟨g, 0, none⟩) n n) n (u32s o)) (hk : k < n) :
    ∃ t, o[k]? = some t ∧ w.cell? ⟨g, k, none⟩ = some (.int .u32 (t : Int)) ∧ w.frozen? ⟨g, k, none⟩ = false := by
  have hl : o.length = n := by have := h.1; simpa [u32s] using this
  refine ⟨o[k], by simp, ?_, h.frozenAt k⟩
  rw [h.cellAt k (by omega)]
  simp [u32s]
  exact ⟨_, List.getElem?_eq_getElem (by omega), rfl⟩

set_option maxHeartbeats 2000000 in
theorem times_any (a b : List Nat) (ha : Lim a) (hb : Lim b) (ao bo : Option Addr) (n m cap cap' : Nat) (w : World) (hA : Sl w ao n cap (u32s a)) (hB : Sl w bo m cap' (u32s b)) (hn : n ≤ 1099511627776) (hm : m ≤ 1099511627776) :
    Calls Try.prog 128 #[.slice ao n cap, .slice bo m cap'] w (NumOut w (val a * val b)) := by
  have hla := hid hA.lenU
  have hlb := hid hB.lenU
  have ha' := hid (limb_at ha)
  have hb' := hid (limb_at hb)
  have hvb : Hid (val b < 4294967296 ^ m) := hid (by have := val_lt hb; rwa [hlb.out] at this)
  obtain ⟨N, hN1, hN2⟩ : ∃ N, n + m ≤ N ∧ N ≤ n + m := ⟨n + m, Nat.le_refl _, Nat.le_refl _⟩
  go_enter Try.func128, Try.ntmps128
  go_wp2_with (at_make; go_loud (refine wp_make rfl (.tmp 13) (.tmp 13) 120 rfl 64 _ 4 Try.underlying120 Try.infoU32 rfl _ _ _ _ N rfl rfl (by omega) (by omega) (by omega) (by omega) ?_))
  intro w1 hown _ hb1
  go_wp2_with fail
  go_loopw [17] (fun i wr => ∃ (k : Nat) (o : List Nat), k ≤ n ∧ i = .int .i64 k ∧ Lim o ∧ Hid (val o = val a % 4294967296 ^ k * val b) ∧
      wr.ownsRow w.heap.size 64 1 (.slice (some ⟨w.heap.size, 0, none⟩) N N) N (u32s o) ∧ Below w.heap.size w wr) (fun i _ => n - (intOf i).toNat)
  case atStart => exact ⟨0, List.replicate N 0, by omega, rfl, fun x hx => by rw [(List.mem_replicate.1 hx).2]; decide, hid (by
    have : ∀ j, val (List.replicate j 0) = 0 := fun j => by induction j with | zero => rfl | succ j ih => simp [List.replicate_succ, val, ih]
    rw [this]; simp [Nat.mod_one]), by simpa [u32s] using hown, hb1⟩
  case round =>
    clear hown hb1
    obtain ⟨k, o, hk, rfl, hlo, hval, hown, hbel⟩ := hrel
    by_cases hlt : k < n
    · go_wp2_with fail
      obtain ⟨wo, hwo⟩ : ∃ wo : World, wo = wr := ⟨_, rfl⟩
      subst hwo
      go_loopw [7, 8] (fun s j wr => ∃ (l c : Nat) (o : List Nat), l ≤ m + 1 ∧ j = .int .i64 l ∧ s = .int .u64 c ∧ c < 4294967296 ∧ Lim o ∧
          Hid (val o + 4294967296 ^ (k + l) * c = (val a % 4294967296 ^ k) * val b + 4294967296 ^ k * (val a / 4294967296 ^ k % 4294967296) * (val b % 4294967296 ^ l)) ∧
          wr.ownsRow w.heap.size 64 1 (.slice (some ⟨w.heap.size, 0, none⟩) N N) N (u32s o) ∧ Below w.heap.size w wr) (fun _ j _ => m + 1 - (intOf j).toNat)
      case atStart => exact ⟨0, 0, o, by omega, rfl, rfl, by omega, hlo, hid (by rw [hval.out]; simp [Nat.mod_one]), hown, hbel⟩
      case round =>
        clear hown hbel hlo hval
        obtain ⟨l, c, o', hl, rfl, rfl, hc, hlo, hval, hown, hbel⟩ := hrel
        by_cases hgo : l < m ∨ 1 ≤ c
        · have hlm : l ≤ m := by
            rcases hgo with h1 | h1
            · omega
            · exact times_room hval.out hvb.out h1
          have hA1 := hA.next hbel
          have hB1 := hB.next hbel
          obtain ⟨t, ht, hcell, hfr⟩ := row_at hown (show k + l < N by omega)
          have htl := hlo t (List.mem_of_getElem? ht)
          have hx : val a / 4294967296 ^ k % 4294967296 < 4294967296 := Nat.mod_lt _ (by decide)
          have hy : val b / 4294967296 ^ l % 4294967296 < 4294967296 := Nat.mod_lt _ (by decide)
          have hst := times_step ht hval.out rfl
          have hga := ha'.out k
          have hgb := hb'.out l
          generalize val a / 4294967296 ^ k % 4294967296 = x at *
          generalize val b / 4294967296 ^ l % 4294967296 = y at *
          obtain ⟨p, hp⟩ : ∃ p, x * y = p := ⟨_, rfl⟩
          have hpb : p ≤ 18446744065119617025 := by
            rw [← hp]; exact Nat.le_trans (Nat.mul_le_mul (show x ≤ 4294967295 by omega) (show y ≤ 4294967295 by omega)) (by decide)
          have hpi : (x : Int) * (y : Int) = (p : Int) := by rw [← hp]; rfl
          rw [hp] at hst
          have Hst := hid hst; have Hga := hid hga; have Hgb := hid hgb; have Hp := hid hp
          clear hst hga hgb hp ht
          have hgo2 : l < m ∨ (m ≤ l ∧ 1 ≤ c) := by omega
          clear hgo
          have fin : ∀ (nq : Nat), ((wr.drewN nq).setCell ⟨w.heap.size, k + l, none⟩ (.int .u32 (((c : Int) + ((t : Int) + (p : Int))) % 4294967296))).ownsRow w.heap.size 64 1 (.slice (some ⟨w.heap.size, 0, none⟩) N N) N (u32s (o'.set (k + l) ((c + (t + p)) % 4294967296))) ∧
              Below w.heap.size w ((wr.drewN nq).setCell ⟨w.heap.size, k + l, none⟩ (.int .u32 (((c : Int) + ((t : Int) + (p : Int))) % 4294967296))) := fun nq => by
            refine ⟨?_, (below_drewN hbel nq).setCell (Nat.le_refl _) _⟩
            have h1 : (wr.drewN nq).ownsRow w.heap.size 64 1 (.slice (some ⟨w.heap.size, 0, none⟩) N N) N (u32s o') := hown
            have := row_store h1 (k := k + l) ((c + (t + p)) % 4294967296)
            rwa [show (((c + (t + p)) % 4294967296 : Nat) : Int) = ((c : Int) + ((t : Int) + (p : Int))) % 4294967296 by simp] at this
          have Fin := hid fin; clear fin
          rcases hgo2 with hkk | ⟨hkk, hc2⟩
          all_goals
            go_wp2_with fail
            go_quiet ((first | (go_at_call_of 157 (Value.int .i64 (k : Int)); exact quiet_eq (at_any a ha k x Hga.out _ _ _ _ (hA1.drewN _))) | (go_at_call_of 157 (Value.int .i64 (l : Int)); exact quiet_eq (at_any b hb l y Hgb.out _ _ _ _ (hB1.drewN _)))))
            go_wp2_with fail
            go_roundw
            case rel => exact ⟨l + 1, (c + (t + p)) / 4294967296, o'.set (k + l) ((c + (t + p)) % 4294967296), by omega, by go_num, by simp, by omega, lim_set hlo (Nat.mod_lt _ (by decide)), Hst, (Fin.out _).1, (Fin.out _).2⟩
            case measure => simp [intOf]; omega
        · have hml : m ≤ l := by omega
          have hc0 : c = 0 := by omega
          have hend := hid (times_end hval.out (Nat.lt_of_lt_of_le hvb.out (Nat.pow_le_pow_right (by decide) hml)) hc0)
          subst hc0
          clear hgo
          go_wp2_with fail
          go_roundw
          case rel => exact ⟨k + 1, o', by omega, by go_num, hlo, hend, hown, hbel⟩
          case measure => simp [intOf]; omega
    · obtain rfl : k = n := by omega
      have hres : Hid (val o = val a * val b) := hid (by
        have h1 := hval.out
        rwa [Nat.mod_eq_of_lt (Nat.lt_of_lt_of_le (val_lt ha) (Nat.pow_le_pow_right (by decide) (by rw [hla.out]; omega)))] at h1)
      obtain ⟨oo, ocap, hv, osl⟩ := ownsSl hown
      injection hv with e1 e2 e3
      subst e1 e3
      go_wp2_with fail
      refine (clean_any o _ _ _ _ osl).mono ?_; rintro e w2 ⟨⟨k', rfl, hk', hs'⟩, rfl⟩
      have Hs' := hid hs'; clear hs'
      go_wp2_with fail
      go_ret
      exact NumOut.ofOwn hown hlo hres.out hk' Hs'.out hbel

end Go.Proofs.Yteancfcmiiddiaa
