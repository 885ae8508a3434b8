/-
  Joined out of XRefB, XRefC, XRefD, XRefP, XRefE.
-/
import Derived.Test.YtgohfieleckmgaaGreatDoorRefA
import Derived.Test.YtgohfieleckmgaaGreatDoorNat

/-
  Contracts of the reference's plus. No condition but sizes.
-/
namespace Go.Proofs.YtgohfieleckmgaaGreatDoor
open Go.RowKit

theorem plus_end {B a b o c M : Nat} (hB : 2 ≤ B) (h1 : a < B ^ M) (h2 : b < B ^ M) (h3 : o < B ^ (M + 1)) (h : o + B ^ (M + 1) * c = a % B ^ (M + 1) + b % B ^ (M + 1)) : o = a + b := by
  have h4 : 2 * B ^ M ≤ B ^ (M + 1) := by rw [Nat.pow_succ, Nat.mul_comm]; exact Nat.mul_le_mul_left _ hB
  generalize B ^ (M + 1) = r at *
  generalize B ^ M = p at *
  rw [Nat.mod_eq_of_lt (show a < r by omega), Nat.mod_eq_of_lt (show b < r by omega)] at h
  by_cases hc1 : c = 0
  · subst hc1; omega
  · have : r ≤ r * c := Nat.le_mul_of_pos_right _ (by omega)
    omega

theorem minus_end {p a b o c : Nat} (h2 : a < p) (hle : b ≤ a) (h3 : o < p) (h : o + b % p = a % p + p * c) : o = a - b := by
  rw [Nat.mod_eq_of_lt h2, Nat.mod_eq_of_lt (by omega)] at h
  by_cases hc1 : c = 0
  · subst hc1; omega
  · have : p ≤ p * c := Nat.le_mul_of_pos_right _ (by omega)
    omega

set_option maxHeartbeats 1000000 in
theorem rplus_any (a b : List Nat) (ha : Lim a) (hb : Lim b) (ao bo : Option Addr) (n m cap cap' : Nat) (w : World) (hA : Sl w ao n cap (u32s a)) (hB : Sl w bo m cap' (u32s b)) (hn : n ≤ 1099511627776) (hm : m ≤ 1099511627776) :
    Calls Tryz.prog 79 #[.slice ao n cap, .slice bo m cap'] w (NumOut w (val a + val b)) := by
  have hla := hid hA.lenU
  have hlb := hid hB.lenU
  have ha' := hid (limb_at ha)
  have hb' := hid (limb_at hb)
  obtain ⟨M, hM1, hM2, hM⟩ : ∃ M, n ≤ M ∧ m ≤ M ∧ (M = n ∨ M = m) := ⟨max n m, Nat.le_max_left _ _, Nat.le_max_right _ _, by omega⟩
  go_enter Tryz.func79, Tryz.ntmps79
  go_wp2_with fail
  go_loopw [5, 6, 7] (fun v s i wr => ∃ (k c : Nat) (o : List Nat), k ≤ M + 1 ∧ i = .int .i64 k ∧ s = .int .u64 c ∧ c ≤ 1 ∧ Hid (o.length = k) ∧ Lim o ∧ Hid (val o + 4294967296 ^ k * c = val a % 4294967296 ^ k + val b % 4294967296 ^ k) ∧
      wr.ownsRow w.heap.size 102 1 v k (u32s o) ∧ Below w.heap.size w wr) (fun _ _ i _ => M + 1 - (intOf i).toNat)
  case atStart => exact ⟨0, 0, [], by omega, rfl, rfl, by omega, hid rfl, lim_nil, hid (by simp [val, Nat.mod_one]), World.ownsRow_nil _ _ _ _, Below.refl _ _⟩
  case round =>
    obtain ⟨k, c, o, hk, rfl, rfl, hc, hlen, hlo, hval, hown, hbel⟩ := hrel
    by_cases hgo : k ≤ M
    · have hA1 := hA.next hbel
      have hB1 := hB.next hbel
      have hx : val a / 4294967296 ^ k % 4294967296 < 4294967296 := Nat.mod_lt _ (by decide)
      have hy : val b / 4294967296 ^ k % 4294967296 < 4294967296 := Nat.mod_lt _ (by decide)
      have hst := plus_step hlen.out hval.out _ _ rfl rfl
      have hga := ha'.out k
      have hgb := hb'.out k
      generalize val a / 4294967296 ^ k % 4294967296 = x at *
      generalize val b / 4294967296 ^ k % 4294967296 = y at *
      rw [show c + (x + y) = x + y + c by omega] at hst
      have Hst := hid hst; have Hga := hid hga; have Hgb := hid hgb
      clear hst hga hgb
      rcases Nat.lt_or_ge n m with hnm | hnm
      all_goals
        go_wp2_with fail
        refine (limb_any a ha _ k x rfl Hga.out _ _ _ _ hA1).mono ?_; rintro e w1 ⟨rfl, rfl⟩
        go_wp2_with fail
        refine (limb_any b hb _ k y rfl Hgb.out _ _ _ _ hB1).mono ?_; rintro e w1 ⟨rfl, rfl⟩
        have hlit : Sl (wr.alloc (.cells #[.int .u32 (((x : Int) + (y : Int) + (c : Int)) % 4294967296)] 102)) (some ⟨wr.heap.size, 0, none⟩) 1 1 (u32s [(x + y + c) % 4294967296]) := by
          have := Sl.lit wr [.int .u32 (((x : Int) + (y : Int) + (c : Int)) % 4294967296)] 102 (by simp [maxLen])
          simpa [u32s] using this
        go_wp2_with (at_builtin; go_loud (refine wp_app rfl (.tmp 27) (.tmp 30) 23 rfl 102 _ 4 Tryz.underlying23 Tryz.infoU32 rfl w.heap.size _ k _ rfl (hown.alloc _) _ 1 1 _ rfl hlit (fun h => by cases h) (u32s_one _) (by omega) (by omega) (by have := hbel.size; simp only [World.size_alloc]; omega) ?_))
        intro v' w2 hown2 hg2 hb2
        have hbel2 : Below w.heap.size w w2 := (hbel.alloc hbel.size _).trans hb2
        go_wp2_with fail
        go_roundw
        case rel => exact ⟨k + 1, (x + y + c) / 4294967296, o ++ [(x + y + c) % 4294967296], by omega, by go_num, by simp, by omega, hid (by rw [List.length_append, hlen.out]; rfl), lim_append.2 ⟨hlo, lim_cons.2 ⟨Nat.mod_lt _ (by decide), lim_nil⟩⟩, Hst, by simpa [u32s] using hown2, hbel2⟩
        case measure => simp [intOf]; omega
    · have hkM : k = M + 1 := by omega
      have hres : Hid (val o = val a + val b) := hid (plus_end (B := 4294967296) (by omega) (Nat.lt_of_lt_of_le (val_lt ha) (Nat.pow_le_pow_right (show 0 < 4294967296 by decide) (show a.length ≤ M by rw [hla.out]; exact hM1)))
        (Nat.lt_of_lt_of_le (val_lt hb) (Nat.pow_le_pow_right (show 0 < 4294967296 by decide) (show b.length ≤ M by rw [hlb.out]; exact hM2))) (by have h3 := val_lt hlo; rwa [hlen.out, hkM] at h3) (by have := hval.out; rwa [hkM] at this))
      obtain ⟨oo, ocap, rfl, osl⟩ := ownsSl hown
      clear hkM
      have hgo' : M < k := by omega
      rcases Nat.lt_or_ge n m with hnm | hnm
      all_goals
        go_wp2_with fail
        refine (trim_any o _ _ _ _ osl).mono ?_; rintro e w2 ⟨⟨k', rfl, hk', hs'⟩, rfl⟩
        have hs' := hid hs'
        go_wp2_with fail
        go_ret
        exact NumOut.ofOwn hown hlo hres.out hk' hs'.out hbel

end Go.Proofs.YtgohfieleckmgaaGreatDoor

/-
  The contract of the reference's minus. Conditions: sizes; what is taken away is at most the number.
-/
namespace Go.Proofs.YtgohfieleckmgaaGreatDoor
open Go.RowKit

set_option maxHeartbeats 1000000 in
theorem rminus_any (a b : List Nat) (ha : Lim a) (hb : Lim b) (hle : val b ≤ val a) (ao bo : Option Addr) (n m cap cap' : Nat) (w : World) (hA : Sl w ao n cap (u32s a)) (hB : Sl w bo m cap' (u32s b)) (hn : n ≤ 1099511627776) :
    Calls Tryz.prog 81 #[.slice ao n cap, .slice bo m cap'] w (NumOut w (val a - val b)) := by
  have hla := hid hA.lenU
  have ha' := hid (limb_at ha)
  have hb' := hid (limb_at hb)
  go_enter Tryz.func81, Tryz.ntmps81
  go_wp2_with fail
  go_loopw [5, 6, 7] (fun v s i wr => ∃ (k c : Nat) (o : List Nat), k ≤ n ∧ i = .int .i64 k ∧ s = .int .u64 c ∧ c ≤ 1 ∧ Hid (o.length = k) ∧ Lim o ∧ Hid (val o + val b % 4294967296 ^ k = val a % 4294967296 ^ k + 4294967296 ^ k * c) ∧
      wr.ownsRow w.heap.size 102 1 v k (u32s o) ∧ Below w.heap.size w wr) (fun _ _ i _ => n - (intOf i).toNat)
  case atStart => exact ⟨0, 0, [], by omega, rfl, rfl, by omega, hid rfl, lim_nil, hid (by simp [val, Nat.mod_one]), World.ownsRow_nil _ _ _ _, Below.refl _ _⟩
  case round =>
    obtain ⟨k, c, o, hk, rfl, rfl, hc, hlen, hlo, hval, hown, hbel⟩ := hrel
    by_cases hlt : k < n
    · have hA1 := hA.next hbel
      have hB1 := hB.next hbel
      have hx : val a / 4294967296 ^ k % 4294967296 < 4294967296 := Nat.mod_lt _ (by decide)
      have hy : val b / 4294967296 ^ k % 4294967296 < 4294967296 := Nat.mod_lt _ (by decide)
      have Hst := hid (fun c' z hz => minus_step (c' := c') (z := z) hlen.out hval.out _ _ rfl rfl hz)
      have hga := ha'.out k
      have hgb := hb'.out k
      generalize val a / 4294967296 ^ k % 4294967296 = x at *
      generalize val b / 4294967296 ^ k % 4294967296 = y at *
      have Hga := hid hga; have Hgb := hid hgb
      clear hga hgb
      obtain ⟨d, hd⟩ : ∃ d : Nat, (x : Int) + 4294967296 - y - c = d := ⟨x + 4294967296 - y - c, by omega⟩
      have hdb : d < 8589934592 := by omega
      obtain ⟨z, hz⟩ : ∃ z : Nat, (d : Int) % 4294967296 = z := ⟨d % 4294967296, rfl⟩
      obtain ⟨c', hc'⟩ : ∃ c' : Nat, 1 - (d : Int) / 4294967296 = c' := ⟨1 - d / 4294967296, by omega⟩
      have hzl : z < 4294967296 := by omega
      have hcl : c' ≤ 1 := by omega
      have hcz : Hid (z + y + c = x + 4294967296 * c') := hid (by omega)
      have hd0 : 0 ≤ (x : Int) + 4294967296 - y := by omega
      have hlit : Sl (wr.alloc (.cells #[.int .u32 (z : Int)] 102)) (some ⟨wr.heap.size, 0, none⟩) 1 1 (u32s [z]) := (one_limb (w := wr) z hzl).1
      go_wp2_with fail
      refine (limb_any a ha _ k x rfl Hga.out _ _ _ _ hA1).mono ?_; rintro e w1 ⟨rfl, rfl⟩
      go_wp2_with fail
      refine (limb_any b hb _ k y rfl Hgb.out _ _ _ _ hB1).mono ?_; rintro e w1 ⟨rfl, rfl⟩
      go_wp2_with (at_builtin; go_loud (refine wp_app rfl (.tmp 25) (.tmp 28) 23 rfl 102 _ 4 Tryz.underlying23 Tryz.infoU32 rfl w.heap.size _ k _ rfl (hown.alloc _) _ 1 1 _ rfl hlit (fun h => by cases h) (u32s_one _) (by omega) (by omega) (by have := hbel.size; simp only [World.size_alloc]; omega) ?_))
      intro v' w2 hown2 hg2 hb2
      have hbel2 : Below w.heap.size w w2 := (hbel.alloc hbel.size _).trans hb2
      go_wp2_with fail
      go_roundw
      case rel => exact ⟨k + 1, c', o ++ [z], by omega, by go_num, rfl, by omega, hid (by rw [List.length_append, hlen.out]; rfl), lim_append.2 ⟨hlo, lim_cons.2 ⟨hzl, lim_nil⟩⟩, hid (Hst.out c' z hcz.out), by simpa [u32s] using hown2, hbel2⟩
      case measure => simp [intOf]; omega
    · obtain rfl : k = n := by omega
      have hres : Hid (val o = val a - val b) := hid (minus_end (p := 4294967296 ^ k) (Nat.lt_of_lt_of_le (val_lt ha) (Nat.pow_le_pow_right (by decide) (by rw [hla.out]; omega))) hle (by have h3 := val_lt hlo; rwa [hlen.out] at h3) hval.out)
      obtain ⟨oo, ocap, rfl, osl⟩ := ownsSl hown
      go_wp2_with fail
      refine (trim_any o _ _ _ _ osl).mono ?_; rintro e w2 ⟨⟨k', rfl, hk', hs'⟩, rfl⟩
      have hs' := hid hs'
      go_wp2_with fail
      go_ret
      exact NumOut.ofOwn hown hlo hres.out hk' hs'.out hbel

end Go.Proofs.YtgohfieleckmgaaGreatDoor

/-
  The contract of the reference's times. No condition but sizes.
-/
namespace Go.Proofs.YtgohfieleckmgaaGreatDoor
open Go.RowKit

/-- The last limb of a round. -/
theorem times_last {a b i m c : Nat} {o : List Nat} (ht : o[i + m]? = some 0) (h : val o + 4294967296 ^ (i + m) * c = (a % 4294967296 ^ i) * b + 4294967296 ^ i * (a / 4294967296 ^ i % 4294967296) * (b % 4294967296 ^ m)) (hb : b < 4294967296 ^ m) :
    val (o.set (i + m) c) = (a % 4294967296 ^ (i + 1)) * b := by
  have h1 := val_set (z := c) ht
  rw [Nat.mul_zero, Nat.add_zero] at h1
  rw [h1, h, Nat.mod_eq_of_lt hb, mod_step a i, Nat.add_mul]

theorem zero_at {o : List Nat} {B i m a b k : Nat} (hB : B = 4294967296) (hl : Lim o) (ho : val o = a * b) (ha : a < B ^ i) (hb : b < B ^ m) (hlen : o.length = k) (hk : i + m < k) : o[i + m]? = some 0 := by
  have h1 := limb_at hl (i + m)
  rw [← hB, Nat.pow_add, Nat.div_eq_of_lt (by
    rw [ho]
    by_cases h0 : b = 0
    · subst h0; rw [Nat.mul_zero]; exact Nat.mul_pos (by omega) (by omega)
    · exact Nat.mul_lt_mul_of_lt_of_le ha (Nat.le_of_lt hb) (by omega))] at h1
  rw [List.getD, List.getElem?_eq_getElem (show i + m < o.length by omega)] at h1
  rw [List.getElem?_eq_getElem (show i + m < o.length by omega)]
  simpa using h1

set_option maxHeartbeats 2000000 in
theorem rtimes_any (a b : List Nat) (ha : Lim a) (hb : Lim b) (ao bo : Option Addr) (n m cap cap' : Nat) (w : World) (hA : Sl w ao n cap (u32s a)) (hB : Sl w bo m cap' (u32s b)) (hn : n ≤ 1099511627776) (hm : m ≤ 1099511627776) :
    Calls Tryz.prog 76 #[.slice ao n cap, .slice bo m cap'] w (NumOut w (val a * val b)) := by
  have hla := hid hA.lenU
  have hlb := hid hB.lenU
  have ha' := hid (limb_at ha)
  have hb' := hid (limb_at hb)
  have hvb : Hid (val b < 4294967296 ^ m) := hid (by have := val_lt hb; rwa [hlb.out] at this)
  obtain ⟨N, hN1, hN2⟩ : ∃ N, n + m ≤ N ∧ N ≤ n + m := ⟨n + m, Nat.le_refl _, Nat.le_refl _⟩
  go_enter Tryz.func76, Tryz.ntmps76
  go_wp2_with (at_make; go_loud (refine wp_make rfl (.tmp 14) (.tmp 14) 23 rfl 102 _ 4 Tryz.underlying23 Tryz.infoU32 rfl _ _ _ _ N rfl rfl (by omega) (by omega) (by omega) (by omega) ?_))
  intro w1 hown _ hb1
  go_wp2_with fail
  go_loopw [6] (fun i wr => ∃ (k : Nat) (o : List Nat), k ≤ n ∧ i = .int .i64 k ∧ Lim o ∧ Hid (o.length = N) ∧ Hid (val o = val a % 4294967296 ^ k * val b) ∧
      wr.ownsRow w.heap.size 102 1 (.slice (some ⟨w.heap.size, 0, none⟩) N N) N (u32s o) ∧ Below w.heap.size w wr) (fun i _ => n - (intOf i).toNat)
  case atStart => exact ⟨0, List.replicate N 0, by omega, rfl, fun x hx => by rw [(List.mem_replicate.1 hx).2]; decide, hid (by simp), hid (by
    have : ∀ j, val (List.replicate j 0) = 0 := fun j => by induction j with | zero => rfl | succ j ih => simp [List.replicate_succ, val, ih]
    rw [this]; simp [Nat.mod_one]), by simpa [u32s] using hown, hb1⟩
  case round =>
    clear hown hb1
    obtain ⟨k, o, hk, rfl, hlo, hoN, hval, hown, hbel⟩ := hrel
    by_cases hlt : k < n
    · have hz : Hid (o[k + m]? = some 0) := hid (zero_at rfl hlo hval.out (Nat.mod_lt _ (Nat.pow_pos (by decide))) hvb.out hoN.out (by omega))
      go_wp2_with fail
      obtain ⟨wo, hwo⟩ : ∃ wo : World, wo = wr := ⟨_, rfl⟩
      subst hwo
      go_loopw [7, 8, 9] (fun s j _ wr => ∃ (l c : Nat) (o : List Nat), l ≤ m ∧ j = .int .i64 l ∧ s = .int .u64 c ∧ c < 4294967296 ∧ Lim o ∧ Hid (o.length = N) ∧ Hid (o[k + m]? = some 0) ∧
          Hid (val o + 4294967296 ^ (k + l) * c = (val a % 4294967296 ^ k) * val b + 4294967296 ^ k * (val a / 4294967296 ^ k % 4294967296) * (val b % 4294967296 ^ l)) ∧
          wr.ownsRow w.heap.size 102 1 (.slice (some ⟨w.heap.size, 0, none⟩) N N) N (u32s o) ∧ Below w.heap.size w wr) (fun _ j _ _ => m - (intOf j).toNat)
      case atStart => exact ⟨0, 0, o, by omega, rfl, rfl, by omega, hlo, hoN, hz, hid (by rw [hval.out]; simp [Nat.mod_one]), hown, hbel⟩
      case round =>
        clear hown hbel hlo hval hz hoN
        obtain ⟨l, c, o', hl, rfl, rfl, hc, hlo, hoN, hz, hval, hown, hbel⟩ := hrel
        by_cases hlm : l < m
        · have hA1 := hA.next hbel
          have hB1 := hB.next hbel
          obtain ⟨t, ht, hcell, hfr⟩ := row_at hown (show k + l < N by omega)
          have htl := hlo t (List.mem_of_getElem? ht)
          obtain ⟨x, hx', bx, ox, rfl, hcx⟩ := hA1.u32 hlt
          obtain ⟨y, hy', byy, oy, rfl, hcy⟩ := hB1.u32 hlm
          have hx := ha x (List.mem_of_getElem? hx')
          have hy := hb y (List.mem_of_getElem? hy')
          have hga : val a / 4294967296 ^ k % 4294967296 = x := by rw [← ha'.out, List.getD, hx']; rfl
          have hgb : val b / 4294967296 ^ l % 4294967296 = y := by rw [← hb'.out, List.getD, hy']; rfl
          have hst := times_step ht hval.out hgb.symm
          rw [hga] at hst
          have hz2 : Hid ((o'.set (k + l) ((x * y + t + c) % 4294967296))[k + m]? = some 0) := hid (by rw [List.getElem?_set_ne (by omega)]; exact hz.out)
          obtain ⟨p, hp⟩ : ∃ p, x * y = p := ⟨_, rfl⟩
          have hpb : p ≤ 18446744065119617025 := by
            rw [← hp]; exact Nat.le_trans (Nat.mul_le_mul (show x ≤ 4294967295 by omega) (show y ≤ 4294967295 by omega)) (by decide)
          have hpi : (x : Int) * (y : Int) = (p : Int) := by rw [← hp]; rfl
          rw [hp] at hst hz2
          rw [show c + (t + p) = p + t + c by omega] at hst
          have Hga := hid hga
          have Hst := hid hst; have Hp := hid hp
          clear hst hga hgb hp ht hx' hy'
          have fin : ∀ (nq : Nat), ((wr.drewN nq).setCell ⟨w.heap.size, k + l, none⟩ (.int .u32 (((p : Int) + (t : Int) + (c : Int)) % 4294967296))).ownsRow w.heap.size 102 1 (.slice (some ⟨w.heap.size, 0, none⟩) N N) N (u32s (o'.set (k + l) ((p + t + c) % 4294967296))) ∧
              Below w.heap.size w ((wr.drewN nq).setCell ⟨w.heap.size, k + l, none⟩ (.int .u32 (((p : Int) + (t : Int) + (c : Int)) % 4294967296))) := fun nq => by
            refine ⟨?_, (below_drewN hbel nq).setCell (Nat.le_refl _) _⟩
            have h1 : (wr.drewN nq).ownsRow w.heap.size 102 1 (.slice (some ⟨w.heap.size, 0, none⟩) N N) N (u32s o') := hown
            have := row_store h1 (k := k + l) ((p + t + c) % 4294967296)
            rwa [show (((p + t + c) % 4294967296 : Nat) : Int) = ((p : Int) + (t : Int) + (c : Int)) % 4294967296 by simp] at this
          have Fin := hid fin; clear fin
          go_wp2_with fail
          go_quiet (fail)
          go_wp2_with fail
          go_roundw
          case rel => exact ⟨l + 1, (p + t + c) / 4294967296, o'.set (k + l) ((p + t + c) % 4294967296), by omega, by go_num, by simp, by omega, lim_set hlo (Nat.mod_lt _ (by decide)), hid (by rw [List.length_set]; exact hoN.out), hz2, by rw [Hga.out]; exact Hst, (Fin.out _).1, (Fin.out _).2⟩
          case measure => simp [intOf]; omega
        · obtain rfl : l = m := by omega
          have hend := hid (times_last hz.out hval.out hvb.out)
          have hcell := (row_cell hown (show k + l < N by omega)).1
          have hfr := (row_cell hown (show k + l < N by omega)).2
          obtain ⟨u, hcell⟩ := hcell
          have fin : (wr.setCell ⟨w.heap.size, k + l, none⟩ (.int .u32 (c : Int))).ownsRow w.heap.size 102 1 (.slice (some ⟨w.heap.size, 0, none⟩) N N) N (u32s (o'.set (k + l) c)) ∧
              Below w.heap.size w (wr.setCell ⟨w.heap.size, k + l, none⟩ (.int .u32 (c : Int))) := ⟨row_store hown c, hbel.setCell (Nat.le_refl _) _⟩
          have Fin := hid fin; clear fin
          go_wp2_with fail
          go_roundw
          case rel => exact ⟨k + 1, o'.set (k + l) c, by omega, by go_num, lim_set hlo hc, hid (by rw [List.length_set]; exact hoN.out), hend, Fin.out.1, Fin.out.2⟩
          case measure => simp [intOf]; omega
    · obtain rfl : k = n := by omega
      have hres : Hid (val o = val a * val b) := hid (by
        have h1 := hval.out
        rwa [Nat.mod_eq_of_lt (Nat.lt_of_lt_of_le (val_lt ha) (Nat.pow_le_pow_right (by decide) (by rw [hla.out]; omega)))] at h1)
      obtain ⟨oo, ocap, hv, osl⟩ := ownsSl hown
      injection hv with e1 e2 e3
      subst e1 e3
      go_wp2_with fail
      refine (trim_any o _ _ _ _ osl).mono ?_; rintro e w2 ⟨⟨k', rfl, hk', hs'⟩, rfl⟩
      have Hs' := hid hs'; clear hs'
      go_wp2_with fail
      go_ret
      exact NumOut.ofOwn hown hlo hres.out hk' Hs'.out hbel

end Go.Proofs.YtgohfieleckmgaaGreatDoor

/-
  Plain facts of division bit by bit. No condition.
-/
namespace Go.Proofs.YtgohfieleckmgaaGreatDoor
open Go.RowKit

/-- One bit of a division. -/
theorem bit_step {p r q t b : Nat} (hb : 0 < b) (hq : q = p / b) (hr : r = p % b) (ht : t < 2) :
    (b ≤ 2 * r + t → (2 * p + t) / b = 2 * q + 1 ∧ (2 * p + t) % b = 2 * r + t - b) ∧ (¬ b ≤ 2 * r + t → (2 * p + t) / b = 2 * q ∧ (2 * p + t) % b = 2 * r + t) := by
  have h1 := Nat.div_add_mod p b
  have h2 := Nat.mod_lt p hb
  rw [← hq, ← hr] at h1
  rw [← hr] at h2
  constructor
  · intro h
    have e : 2 * p + t = (2 * r + t - b) + b * (2 * q + 1) := by rw [Nat.mul_add, Nat.mul_left_comm]; omega
    rw [e, Nat.add_mul_div_left _ _ hb, Nat.add_mul_mod_self_left, Nat.div_eq_of_lt (by omega), Nat.mod_eq_of_lt (by omega)]
    omega
  · intro h
    have e : 2 * p + t = (2 * r + t) + b * (2 * q) := by rw [Nat.mul_left_comm]; omega
    rw [e, Nat.add_mul_div_left _ _ hb, Nat.add_mul_mod_self_left, Nat.div_eq_of_lt (by omega), Nat.mod_eq_of_lt (by omega)]
    omega

theorem two_step (a k : Nat) : a / 2 ^ k = 2 * (a / 2 ^ (k + 1)) + a / 2 ^ k % 2 := by
  rw [Nat.pow_succ, ← Nat.div_div_eq_div_mul]; omega

/-- Bit 32 j + s of a number stands in its limb j. -/
theorem bit_core {B a j s x : Nat} (hB : 2 ^ 32 = B) (hs : s < 32) (hx : x = a / B ^ j % B) : x / 2 ^ s % 2 = a / 2 ^ (32 * j + s) % 2 := by
  have e1 : B = 2 ^ s * 2 ^ (32 - s) := by rw [← Nat.pow_add, show s + (32 - s) = 32 by omega, hB]
  have e2 : B ^ j * 2 ^ s = 2 ^ (32 * j + s) := by rw [← hB, ← Nat.pow_mul, ← Nat.pow_add]
  have h1 : x / 2 ^ s = a / B ^ j / 2 ^ s % 2 ^ (32 - s) := by
    generalize a / B ^ j = p at *
    rw [hx, e1, Nat.mod_mul_right_div_self]
  rw [h1, Nat.mod_mod_of_dvd _ (show 2 ∣ 2 ^ (32 - s) from Nat.pow_dvd_pow 2 (show 1 ≤ 32 - s by omega)), Nat.div_div_eq_div_mul, e2]

/-- A bit is set in a limb whose lower bits are 0. -/
theorem set_core {B Q N j s x : Nat} (hB : 2 ^ 32 = B) (hs : s < 32) (hN : N = Q * 2 ^ (32 * j + s + 1)) (hx : x = N / B ^ j % B) :
    ∃ y, x = 2 ^ (s + 1) * y ∧ x + 2 ^ s < B ∧ B ^ j * 2 ^ s = 2 ^ (32 * j + s) := by
  have e1 : B = 2 ^ (s + 1) * 2 ^ (31 - s) := by rw [← Nat.pow_add, show s + 1 + (31 - s) = 32 by omega, hB]
  have e2 : B ^ j * 2 ^ s = 2 ^ (32 * j + s) := by rw [← hB, ← Nat.pow_mul, ← Nat.pow_add]
  have hBj : 0 < B ^ j := Nat.pow_pos (by rw [← hB]; decide)
  have h1 : N / B ^ j = 2 ^ (s + 1) * Q := by
    have : N = B ^ j * (2 ^ (s + 1) * Q) := by
      rw [hN, show 32 * j + s + 1 = 32 * j + (s + 1) by omega, Nat.pow_add, ← Nat.mul_assoc, ← hB, ← Nat.pow_mul, Nat.mul_comm Q, Nat.mul_assoc, Nat.mul_comm Q]
    rw [this, Nat.mul_div_cancel_left _ hBj]
  have h2 : x = 2 ^ (s + 1) * (Q % 2 ^ (31 - s)) := by rw [hx, h1]; conv => lhs; rhs; rw [e1]
                                                       rw [Nat.mul_mod_mul_left]
  refine ⟨_, h2, ?_, e2⟩
  have h3 : Q % 2 ^ (31 - s) < 2 ^ (31 - s) := Nat.mod_lt _ (Nat.pow_pos (by decide))
  have h4 : 2 ^ (s + 1) * (Q % 2 ^ (31 - s)) + 2 ^ (s + 1) ≤ 2 ^ (s + 1) * 2 ^ (31 - s) := by
    rw [← Nat.mul_succ]; exact Nat.mul_le_mul_left _ h3
  have h5 : 2 ^ s < 2 ^ (s + 1) := Nat.pow_lt_pow_right (by decide) (by omega)
  rw [← e1, ← h2] at h4
  omega

theorem or_bit {x y s : Nat} (hx : x = 2 ^ (s + 1) * y) : x ||| 2 ^ s = x + 2 ^ s := by
  have h := Nat.shiftLeft_add_eq_or_of_lt (show 2 ^ s < 2 ^ (s + 1) from Nat.pow_lt_pow_right (by decide) (by omega)) y
  rw [Nat.shiftLeft_eq, Nat.mul_comm y, ← hx] at h
  exact h.symm

end Go.Proofs.YtgohfieleckmgaaGreatDoor

/-
  The contract of the reference's divide. Its condition: the divisor is not 0.
-/
namespace Go.Proofs.YtgohfieleckmgaaGreatDoor
open Go.RowKit
set_option linter.unusedVariables false

section
variable {w : World} {ao bo : Option Addr} {n m cap cap' : Nat}
theorem rplusD (a b : Nat) (hA : Sl w ao n cap (u32s (dig a))) (hB : Sl w bo m cap' (u32s (dig b))) (hn : n ≤ 1099511627776) (hm : m ≤ 1099511627776) :
    Calls Tryz.prog 79 #[.slice ao n cap, .slice bo m cap'] w (NumOut w (a + b)) := by
  have := rplus_any _ _ (lim_dig a) (lim_dig b) _ _ _ _ _ _ _ hA hB hn hm
  rwa [val_dig, val_dig] at this
theorem rminusD (a b : Nat) (hle : b ≤ a) (hA : Sl w ao n cap (u32s (dig a))) (hB : Sl w bo m cap' (u32s (dig b))) (hn : n ≤ 1099511627776) :
    Calls Tryz.prog 81 #[.slice ao n cap, .slice bo m cap'] w (NumOut w (a - b)) := by
  have := rminus_any _ _ (lim_dig a) (lim_dig b) (by rw [val_dig, val_dig]; exact hle) _ _ _ _ _ _ _ hA hB hn
  rwa [val_dig, val_dig] at this
theorem rtimesD (a b : Nat) (hA : Sl w ao n cap (u32s (dig a))) (hB : Sl w bo m cap' (u32s (dig b))) (hn : n ≤ 1099511627776) (hm : m ≤ 1099511627776) :
    Calls Tryz.prog 76 #[.slice ao n cap, .slice bo m cap'] w (NumOut w (a * b)) := by
  have := rtimes_any _ _ (lim_dig a) (lim_dig b) _ _ _ _ _ _ _ hA hB hn hm
  rwa [val_dig, val_dig] at this
end

/-- The facts of a limb that is read and of one that is written. -/
theorem bit_read {a j s x : Nat} (hs : s < 32) (hx : x = a / 4294967296 ^ j % 4294967296) : ∃ y t : Nat, (x : Int) / 2 ^ s = (y : Int) ∧ bits .and .u32 (y : Int) 1 = (t : Int) ∧ t = a / 2 ^ (32 * j + s) % 2 := by
  have hb := bit_core (B := 4294967296) (by decide) hs hx
  have hx2 : x < 4294967296 := by rw [hx]; exact Nat.mod_lt _ (by decide)
  refine ⟨x / 2 ^ s, x / 2 ^ s % 2, by rw [Int.natCast_ediv, Int.natCast_pow]; rfl, ?_, hb⟩
  rw [show (1 : Int) = ((1 : Nat) : Int) from rfl, u32_and_nat _ _ (Nat.lt_of_le_of_lt (Nat.div_le_self _ _) hx2) (by decide), Nat.and_one_is_mod]

theorem bit_write {Q N j s x : Nat} (hs : s < 32) (hN : N = Q * 2 ^ (32 * j + s + 1)) (hx : x = N / 4294967296 ^ j % 4294967296) :
    ∃ z : Nat, bits .or .u32 (x : Int) (2 ^ s % 4294967296) = (z : Int) ∧ z < 4294967296 ∧ z = x + 2 ^ s ∧ 4294967296 ^ j * 2 ^ s = 2 ^ (32 * j + s) := by
  obtain ⟨y, h1, h2, h3⟩ := set_core (B := 4294967296) (by decide) hs hN hx
  have h4 : x < 4294967296 := by omega
  have h5 : 2 ^ s < 4294967296 := by omega
  refine ⟨x + 2 ^ s, ?_, h2, rfl, h3⟩
  rw [show (2 : Int) ^ s % 4294967296 = ((2 ^ s : Nat) : Int) by
        have e : ((2 ^ s : Nat) : Int) = (2 : Int) ^ s := by rw [Int.natCast_pow]; rfl
        rw [← e]; exact (fun (q : Nat) (h : q < 4294967296) => (by omega : (q : Int) % 4294967296 = q)) _ h5, u32_or_nat _ _ h4 h5, or_bit h1]

theorem pow_half (Q j : Nat) : Q * 2 ^ (j + 1) = 2 * Q * 2 ^ j := by rw [Nat.pow_succ, Nat.mul_comm (2 ^ j), ← Nat.mul_assoc, Nat.mul_comm Q]

set_option maxHeartbeats 2000000 in
theorem divide_any (a b : Nat) (hb : b ≠ 0) (ao bo : Option Addr) (n m cap cap' : Nat) (w : World) (hA : Sl w ao n cap (u32s (dig a))) (hB : Sl w bo m cap' (u32s (dig b))) (hn : n ≤ 17179869184) (hm : m ≤ 17179869184) :
    Calls Tryz.prog 109 #[.slice ao n cap, .slice bo m cap'] w (DivOut w (a / b) (a % b)) := by
  have hla := hid hA.lenU
  have hlb := hid hB.lenU
  have hb0 : 0 < b := Nat.pos_of_ne_zero hb
  go_enter Tryz.func109, Tryz.ntmps109
  go_wp2_with (at_make; go_loud (refine wp_make rfl (.tmp 10) (.tmp 10) 23 rfl 102 _ 4 Tryz.underlying23 Tryz.infoU32 rfl _ _ _ _ n rfl rfl rfl rfl (by omega) (by omega) ?_))
  intro w1 hown _ hb1
  go_wp2_with fail
  go_loopw [7, 8] (fun rv i wr => ∃ (k R : Nat) (o : List Nat) (ro : Option Addr) (rn rc : Nat), k ≤ 32 * n ∧ i = .int .i64 ((k : Int) - 1) ∧ Hid (R = a / 2 ^ k % b) ∧ Hid (val o = a / 2 ^ k / b * 2 ^ k) ∧ Lim o ∧
      rv = .slice ro rn rc ∧ Sl wr ro rn rc (u32s (dig R)) ∧ (ro = none → rc = 0) ∧
      wr.ownsRow w.heap.size 102 1 (.slice (some ⟨w.heap.size, 0, none⟩) n n) n (u32s o) ∧ Below w.heap.size w wr) (fun _ i _ => (intOf i + 1).toNat)
  case atStart =>
    have h0 : a / 2 ^ (32 * n) = 0 := Nat.div_eq_of_lt (by have := dig_lt a; rw [hla.out] at this; rw [Nat.pow_mul]; exact this)
    refine ⟨32 * n, 0, List.replicate n 0, none, 0, 0, Nat.le_refl _, by simp, hid (by rw [h0]; simp), hid ?_, fun x hx => by rw [(List.mem_replicate.1 hx).2]; decide, rfl, by rw [dig_zero]; exact Sl.nil _, fun _ => rfl, by simpa [u32s] using hown, hb1⟩
    have : ∀ j, val (List.replicate j 0) = 0 := fun j => by induction j with | zero => rfl | succ j ih => simp [List.replicate_succ, val, ih]
    rw [this, h0]; simp
  case round =>
    clear hown hb1
    obtain ⟨k, R, o, ro, rn, rc, hk, rfl, hR, hval, hlo, rfl, sR, hz, hown, hbel⟩ := hrel
    cases k with
    | zero =>
      have hres : Hid (val o = a / b) := hid (by have := hval.out; simpa using this)
      have hrr : R = a % b := by have := hR.out; simpa using this
      subst hrr
      obtain ⟨oo, ocap, hv, osl⟩ := ownsSl hown
      injection hv with e1 e2 e3
      subst e1 e3
      go_wp2_with fail
      refine (trim_any o _ _ _ _ osl).mono ?_; rintro e w2 ⟨⟨k', rfl, hk', hs'⟩, rfl⟩
      have Hs' := hid hs'; clear hs'
      go_wp2_with fail
      go_ret2
      obtain ⟨_, _, _, he, hs, hz', _, _⟩ := NumOut.ofOwn hown hlo hres.out hk' Hs'.out hbel
      injection he with he
      injection he with e1 e2 e3
      subst e1 e2 e3
      exact ⟨_, _, _, _, _, _, rfl, hs, sR, hz', hz, hbel⟩
    | succ j =>
      have hj : ((j + 1 : Nat) : Int) - 1 = j := by omega
      rw [hj]
      clear hj
      obtain ⟨K, hK⟩ : ∃ K : Nat, (j : Int) / 32 = K := ⟨j / 32, rfl⟩
      obtain ⟨s, hs⟩ : ∃ s : Nat, (j : Int) % 32 = s := ⟨j % 32, rfl⟩
      have hjk : j = 32 * K + s := by omega
      have hs32 : s < 32 := by omega
      have hKn : K < n := by omega
      have hA1 := hA.next hbel
      have hB1 := hB.next hbel
      obtain ⟨x, hx', bx, ox, rfl, hcx⟩ := hA1.u32 hKn
      have hxe : x = a / 4294967296 ^ K % 4294967296 := by rw [← dig_at, List.getD, hx']; rfl
      obtain ⟨y, t, hy, ht, htt⟩ := bit_read hs32 hxe
      rw [← hjk] at htt
      clear hx' hxe
      have hrn : rn ≤ m := by
        rw [← sR.lenU, ← hlb.out]
        exact dig_len_mono (Nat.le_of_lt (by rw [hR.out]; exact Nat.mod_lt _ hb0))
      have ht2 : t < 2 := by omega
      obtain ⟨b1, b2⟩ := bit_step (p := a / 2 ^ (j + 1)) hb0 rfl rfl ht2
      have htw := two_step a j
      rw [← htt] at htw
      rw [← htw, ← hR.out] at b1 b2
      have Hjk := hid hjk
      have B1 := hid b1; have B2 := hid b2
      clear htt b1 b2 htw hjk
      have hG : w.heap.size < wr.heap.size := by
        rcases hown.2 with ⟨hv, _⟩ | ⟨g, c, cur, hv, _, hg, _⟩
        · cases hv
        · injection hv with e1 _ _
          injection e1 with e1
          injection e1 with e1 _ _
          subst e1
          exact (Array.getElem?_eq_some_iff.1 hg).1
      obtain ⟨x0, hx0, _, _⟩ := row_at hown hKn
      have hx0e : x0 = val o / 4294967296 ^ K % 4294967296 := by rw [← limb_at hlo, List.getD, hx0]; rfl
      obtain ⟨z, hz1, hzl, hz2, hz3⟩ := bit_write hs32 (by rw [hval.out, Hjk.out]) hx0e
      have hset : val (o.set K z) = val o + 2 ^ j := by
        have h1 := val_set (z := z) hx0
        rw [hz2, Nat.mul_add, hz3, ← Hjk.out] at h1
        rw [hz2]
        omega
      have Hset := hid hset
      have Hx0 := hid hx0
      clear hset hx0 hx0e hz2 hz3
      have B1 : Hid (b ≤ R + R + t → a / 2 ^ j / b = 2 * (a / 2 ^ (j + 1) / b) + 1 ∧ R + R + t - b = a / 2 ^ j % b) := hid (fun h => by have := B1.out (by omega); exact ⟨this.1, by rw [this.2]; omega⟩)
      have B2 : Hid (¬ b ≤ R + R + t → a / 2 ^ j / b = 2 * (a / 2 ^ (j + 1) / b) ∧ R + R + t = a / 2 ^ j % b) := hid (fun h => by have := B2.out (by omega); exact ⟨this.1, by rw [this.2]; omega⟩)
      have hlR : lim (R + R) ≤ m + 1 := lim_add (by rw [← sR.lenU] at hrn; exact hrn) (by rw [← sR.lenU] at hrn; exact hrn)
      have hl1 : lim (R + R + 1) ≤ m + 2 := lim_add hlR (by rw [lim_one]; omega)
      go_wp2_with fail
      refine (rplusD R R sR sR (by omega) (by omega)).mono ?_; rintro e w2 ⟨po, pn, pc, rfl, sP, hzp, hbp, hfp⟩
      have hcx2 := cell_later hbp hcx
      have hpn : pn ≤ m + 2 := by rw [← sP.lenU]; exact Nat.le_trans hlR (by omega)
      have hbel2 := hbel.trans (hbp.mono hbel.size)
      rcases (show t = 0 ∨ t = 1 by omega) with rfl | rfl
      · go_wp2_with fail
        refine (compare_any _ _ _ _ _ _ _ _ _ sP (hB1.next (hbp))).mono ?_; rintro e w4 ⟨rfl, q, rfl⟩
        by_cases hge : b ≤ R + R
        · have hd : decide (0 ≤ ord (R + R) b) = true := by
            rw [decide_eq_true_eq]; unfold ord; rw [if_neg (by omega)]; split <;> decide
          obtain ⟨f1, f2⟩ := B1.out hge
          have F1 := hid f1; have F2 := hid f2
          have hlm : R + R - b ≤ R + R := Nat.sub_le _ _
          clear f1 f2
          go_wp2_with fail
          refine (rminusD (R + R) b hge (sP.drewN q) ((hB1.next (hbp)).drewN q) (by omega)).mono ?_; rintro e w5 ⟨mo, mn, mc, rfl, sM, hzm, hbm, hfm⟩
          have hb5 : Below wr.heap.size wr w5 := ((below_drewN (hbp) q)).trans (hbm.mono (by have := (hbp).size; simpa using this))
          have hown5 := ownsRow_below hown hb5 (Nat.le_refl _)
          obtain ⟨x0', hx0', hcell, hfr⟩ := row_at hown5 hKn
          obtain rfl : x0' = x0 := by have := hx0'.symm.trans Hx0.out; simpa using this
          have hbel5 := hbel.trans (hb5.mono hbel.size)
          have fin : (w5.setCell ⟨w.heap.size, K, none⟩ (.int .u32 (z : Int))).ownsRow w.heap.size 102 1 (.slice (some ⟨w.heap.size, 0, none⟩) n n) n (u32s (o.set K z)) ∧
              Below w.heap.size w (w5.setCell ⟨w.heap.size, K, none⟩ (.int .u32 (z : Int))) ∧ Sl (w5.setCell ⟨w.heap.size, K, none⟩ (.int .u32 (z : Int))) mo mn mc (u32s (dig (R + R - b))) :=
            ⟨row_store hown5 z, hbel5.setCell (Nat.le_refl _) _, sM.setCell (Off.fresh hfm (Nat.lt_of_lt_of_le hG (hbp).size)) _ _⟩
          have hval2 : Hid (val (o.set K z) = a / 2 ^ j / b * 2 ^ j) := hid (by rw [Hset.out, F1.out, Nat.add_mul, Nat.one_mul, hval.out, pow_half])
          have Fin := hid fin; clear fin hx0'
          go_wp2_with fail
          go_roundw
          case rel => exact ⟨j, R + R - b, o.set K z, mo, mn, mc, by omega, rfl, F2, hval2, lim_set hlo hzl, rfl, Fin.out.2.2, hzm, Fin.out.1, Fin.out.2.1⟩
          case measure => simp [intOf]
        · have hd : decide (0 ≤ ord (R + R) b) = false := by
            rw [decide_eq_false_iff_not]; unfold ord; rw [if_pos (by omega)]; decide
          obtain ⟨f1, f2⟩ := B2.out hge
          have F1 := hid f1; have F2 := hid f2
          have hval2 : Hid (val o = a / 2 ^ j / b * 2 ^ j) := hid (by rw [F1.out, hval.out, pow_half])
          have Fin := hid ((show (w.ownsRow w.heap.size 102 1 (.slice none 0 0) 0 []) from World.ownsRow_nil _ _ _ _))
          have hownq := ownsRow_below hown (below_drewN (hbp) q) (Nat.le_refl _)
          have sPq := sP.drewN q
          have hbelq := below_drewN (hbel2) q
          clear f1 f2 Fin
          go_wp2_with fail
          go_roundw
          case rel => exact ⟨j, R + R, o, po, pn, pc, by omega, rfl, F2, hval2, hlo, rfl, sPq, hzp, hownq, hbelq⟩
          case measure => simp [intOf]
      · go_wp2_with fail
        have s1 := (one_limb (w := w2) 1 (by decide)).1
        have h1 : [1] = dig 1 := by rw [dig_pos (by decide), dig_zero]
        rw [h1] at s1
        clear h1
        refine (rplusD (R + R) 1 (sP.next (below_alloc _)) s1 (by omega) (by omega)).mono ?_; rintro e w3 ⟨po, pn, pc, rfl, sP, hzp, hbp', hfp⟩
        have hpn : pn ≤ m + 2 := by rw [← sP.lenU]; exact hl1
        go_wp2_with fail
        have hbp3 : Below wr.heap.size wr w3 := (hbp.alloc hbp.size _).trans (hbp'.mono (by have := hbp.size; simp only [World.size_alloc]; omega))
        have hbel3 := hbel.trans (hbp3.mono hbel.size)
        refine (compare_any _ _ _ _ _ _ _ _ _ sP (hB1.next (hbp3))).mono ?_; rintro e w4 ⟨rfl, q, rfl⟩
        by_cases hge : b ≤ R + R + 1
        · have hd : decide (0 ≤ ord (R + R + 1) b) = true := by
            rw [decide_eq_true_eq]; unfold ord; rw [if_neg (by omega)]; split <;> decide
          obtain ⟨f1, f2⟩ := B1.out hge
          have F1 := hid f1; have F2 := hid f2
          have hlm : R + R + 1 - b ≤ R + R + 1 := Nat.sub_le _ _
          clear f1 f2
          go_wp2_with fail
          refine (rminusD (R + R + 1) b hge (sP.drewN q) ((hB1.next (hbp3)).drewN q) (by omega)).mono ?_; rintro e w5 ⟨mo, mn, mc, rfl, sM, hzm, hbm, hfm⟩
          have hb5 : Below wr.heap.size wr w5 := ((below_drewN (hbp3) q)).trans (hbm.mono (by have := (hbp3).size; simpa using this))
          have hown5 := ownsRow_below hown hb5 (Nat.le_refl _)
          obtain ⟨x0', hx0', hcell, hfr⟩ := row_at hown5 hKn
          obtain rfl : x0' = x0 := by have := hx0'.symm.trans Hx0.out; simpa using this
          have hbel5 := hbel.trans (hb5.mono hbel.size)
          have fin : (w5.setCell ⟨w.heap.size, K, none⟩ (.int .u32 (z : Int))).ownsRow w.heap.size 102 1 (.slice (some ⟨w.heap.size, 0, none⟩) n n) n (u32s (o.set K z)) ∧
              Below w.heap.size w (w5.setCell ⟨w.heap.size, K, none⟩ (.int .u32 (z : Int))) ∧ Sl (w5.setCell ⟨w.heap.size, K, none⟩ (.int .u32 (z : Int))) mo mn mc (u32s (dig (R + R + 1 - b))) :=
            ⟨row_store hown5 z, hbel5.setCell (Nat.le_refl _) _, sM.setCell (Off.fresh hfm (Nat.lt_of_lt_of_le hG (hbp3).size)) _ _⟩
          have hval2 : Hid (val (o.set K z) = a / 2 ^ j / b * 2 ^ j) := hid (by rw [Hset.out, F1.out, Nat.add_mul, Nat.one_mul, hval.out, pow_half])
          have Fin := hid fin; clear fin hx0'
          go_wp2_with fail
          go_roundw
          case rel => exact ⟨j, R + R + 1 - b, o.set K z, mo, mn, mc, by omega, rfl, F2, hval2, lim_set hlo hzl, rfl, Fin.out.2.2, hzm, Fin.out.1, Fin.out.2.1⟩
          case measure => simp [intOf]
        · have hd : decide (0 ≤ ord (R + R + 1) b) = false := by
            rw [decide_eq_false_iff_not]; unfold ord; rw [if_pos (by omega)]; decide
          obtain ⟨f1, f2⟩ := B2.out hge
          have F1 := hid f1; have F2 := hid f2
          have hval2 : Hid (val o = a / 2 ^ j / b * 2 ^ j) := hid (by rw [F1.out, hval.out, pow_half])
          have Fin := hid ((show (w.ownsRow w.heap.size 102 1 (.slice none 0 0) 0 []) from World.ownsRow_nil _ _ _ _))
          have hownq := ownsRow_below hown (below_drewN (hbp3) q) (Nat.le_refl _)
          have sPq := sP.drewN q
          have hbelq := below_drewN (hbel3) q
          clear f1 f2 Fin
          go_wp2_with fail
          go_roundw
          case rel => exact ⟨j, R + R + 1, o, po, pn, pc, by omega, rfl, F2, hval2, hlo, rfl, sPq, hzp, hownq, hbelq⟩
          case measure => simp [intOf]

end Go.Proofs.YtgohfieleckmgaaGreatDoor
