/-
  Contracts of the reference's natural numbers: trim, limb, sign, compare, one, same, natural. No condition but sizes.
-/
import Derived.Test.YtgohfieleckmgaaGreatDoorLimZ
import Derived.Test.YtgohfieleckmgaaGreatDoorRatM
namespace Go.Proofs.YtgohfieleckmgaaGreatDoor
open Go.RowKit

theorem quiet_add_left {P : Program} {f : FuncId} {args : Array Value} {w : World} {a n : Nat} {v : Value}
    (h : Calls P f args (w.drewN (a + n)) fun e w' => e = .returned v ∧ w.drewN (a + n) = w') :
    Calls P f args (w.drewN (a + n)) fun e w'' => e = .returned v ∧ ∃ m, w'' = w.drewN (a + m) :=
  h.mono fun _ _ ⟨he, hm⟩ => ⟨he, n, hm.symm⟩

set_option maxHeartbeats 400000 in
theorem trim_any (l : List Nat) (ao : Option Addr) (n cap : Nat) (w : World) (h : Sl w ao n cap (u32s l)) :
    Calls Tryz.prog 108 #[.slice ao n cap] w fun e w' => (∃ k, e = .returned (.slice ao k cap) ∧ k ≤ n ∧ strip l = l.take k) ∧ w = w' := by
  have hb := h.bound
  have hn := hid h.lenU
  have hle := h.le
  go_enter Tryz.func108, Tryz.ntmps108
  go_wp2_with fail
  go_loop [0] (fun v => ∃ k : Nat, k ≤ n ∧ v = .slice ao k cap ∧ Hid (strip (l.take k) = strip l)) (fun v => slLen v)
  case atStart => exact ⟨n, Nat.le_refl _, rfl, by rw [List.take_of_length_le (by rw [hn.out]; omega)]; exact rfl⟩
  case round =>
    obtain ⟨k, hk, rfl, hs⟩ := hrel
    cases k with
    | zero =>
      go_wp2_with fail
      go_ret
      exact ⟨⟨0, rfl, by omega, by rw [← hs.out]; simp [strip]⟩, rfl⟩
    | succ j =>
      obtain ⟨x, hx', b, off, rfl, hcell⟩ := h.u32 (show j < n by omega)
      have hx := hid hx'; clear hx'
      have hj : j + 1 ≤ cap := by omega
      by_cases hz : x = 0
      · subst hz
        go_wp2_with fail
        go_round
        case rel => exact ⟨j, by omega, rfl, by show strip (l.take j) = strip l; rw [← hs.out, take_snoc hx.out, strip_snoc_zero]⟩
        case measure => simp [slLen]
      · go_wp2_with fail
        go_ret
        exact ⟨⟨j + 1, rfl, hk, by rw [← hs.out, take_snoc hx.out, strip_snoc hz]⟩, rfl⟩

theorem limb_any (l : List Nat) (hl : Lim l) (I : Int) (i x : Nat) (hI : I = (i : Int)) (hX : l.getD i 0 = x) (ao : Option Addr) (n cap : Nat) (w : World) (h : Sl w ao n cap (u32s l)) :
    Calls Tryz.prog 110 #[.slice ao n cap, .int .i64 I] w fun e w' => e = .returned (.int .u64 (x : Int)) ∧ w = w' := by
  subst hI
  have hb := h.bound
  have hn := hid h.lenU
  have hX' := hid hX; clear hX
  by_cases hi : i < n
  · obtain ⟨y, hx', b, off, rfl, hcell⟩ := h.u32 hi
    have hxb := hl y (List.mem_of_getElem? hx')
    obtain rfl : x = y := by rw [← hX'.out, List.getD, hx']; rfl
    clear hx'
    go_enter Tryz.func110, Tryz.ntmps110
    go_wp2_with fail
    go_ret
    exact ⟨rfl, rfl⟩
  · obtain rfl : x = 0 := by rw [← hX'.out, List.getD, List.getElem?_eq_none (by rw [hn.out]; omega)]; rfl
    go_enter Tryz.func110, Tryz.ntmps110
    go_wp2_with fail
    go_ret
    exact ⟨rfl, rfl⟩

theorem limbD (a : Nat) (I : Int) (i x : Nat) (hI : I = (i : Int)) (hX : a / 4294967296 ^ i % 4294967296 = x) (ao : Option Addr) (n cap : Nat) (w : World) (hA : Sl w ao n cap (u32s (dig a))) :
    Calls Tryz.prog 110 #[.slice ao n cap, .int .i64 I] w fun e w' => e = .returned (.int .u64 (x : Int)) ∧ w = w' :=
  limb_any _ (lim_dig a) I i x hI (by rw [dig_at]; exact hX) _ _ _ _ hA

/-- -1, 0 or 1 of an int. -/
def sg (v : Int) : Int := if v < 0 then -1 else if v = 0 then 0 else 1

theorem sign_any (v : Int) (w : World) : Calls Tryz.prog 111 #[.int .i64 v] w fun e w' => e = .returned (.int .i64 (sg v)) ∧ w = w' := by
  rcases Int.lt_trichotomy v 0 with h | h | h
  · have hs : sg v = -1 := by simp [sg, h]
    rw [hs]
    go_enter Tryz.func111, Tryz.ntmps111
    go_wp2_with fail
    go_ret
    exact ⟨rfl, rfl⟩
  · subst h
    go_enter Tryz.func111, Tryz.ntmps111
    go_wp2_with fail
    go_ret
    exact ⟨rfl, rfl⟩
  · have hs : sg v = 1 := by unfold sg; rw [if_neg (by omega), if_neg (by omega)]
    have h2 : ¬ v < 0 := by omega
    rw [hs]
    go_enter Tryz.func111, Tryz.ntmps111
    go_wp2_with fail
    go_ret
    exact ⟨rfl, rfl⟩

theorem ord_len_lt {a b : Nat} (h : (dig a).length < (dig b).length) : ord a b = -1 := by
  have : a < b := by
    by_cases hc : b ≤ a
    · have := dig_len_mono hc; omega
    · omega
  simp [ord, this]
theorem ord_len_gt {a b : Nat} (h : (dig b).length < (dig a).length) : ord a b = 1 := by
  have : b < a := by
    by_cases hc : a ≤ b
    · have := dig_len_mono hc; omega
    · omega
  unfold ord; rw [if_neg (by omega), if_neg (by omega)]

set_option maxHeartbeats 1000000 in
theorem compare_any (a b : Nat) (ao bo : Option Addr) (n m cap cap' : Nat) (w : World) (hA : Sl w ao n cap (u32s (dig a))) (hB : Sl w bo m cap' (u32s (dig b))) :
    Calls Tryz.prog 80 #[.slice ao n cap, .slice bo m cap'] w fun e w' => e = .returned (.int .i64 (ord a b)) ∧ ∃ q, w' = w.drewN q := by
  have hn := hA.bound
  have hm := hB.bound
  have hla := hid hA.lenU
  have hlb := hid hB.lenU
  by_cases hnm : n = m
  · subst hnm
    have hst : Hid (a / 4294967296 ^ n = b / 4294967296 ^ n) := hid (by
      rw [Nat.div_eq_of_lt (by have := dig_lt a; rwa [hla.out] at this), Nat.div_eq_of_lt (by have := dig_lt b; rwa [hlb.out] at this)])
    go_enter Tryz.func80, Tryz.ntmps80
    go_wp2_with fail
    go_loopw [5] (fun i wr => ∃ k q : Nat, k ≤ n ∧ i = .int .i64 ((k : Int) - 1) ∧ Hid (a / 4294967296 ^ k = b / 4294967296 ^ k) ∧ wr = w.drewN q) (fun i _ => (intOf i + 1).toNat)
    case atStart => exact ⟨n, 0, by omega, rfl, hst, rfl⟩
    case round =>
      clear hst
      obtain ⟨k, q, hk, rfl, hs, rfl⟩ := hrel
      cases k with
      | zero =>
        go_wp2_with fail
        go_ret
        refine ⟨retI ?_, _, rfl⟩
        have := hs.out
        simp at this
        simp [ord, this]
      | succ j =>
        have hj : ((j + 1 : Nat) : Int) - 1 = j := by omega
        rw [hj]
        have hj' : j ≤ 9223372036854775807 := by omega
        clear hj
        obtain ⟨x, hx', bx, ox, rfl, hcx⟩ := hA.u32 (show j < n by omega)
        obtain ⟨y, hy', byy, oy, rfl, hcy⟩ := hB.u32 (show j < n by omega)
        have hxe : a / 4294967296 ^ j % 4294967296 = x := by rw [← dig_at, List.getD, hx']; rfl
        have hye : b / 4294967296 ^ j % 4294967296 = y := by rw [← dig_at, List.getD, hy']; rfl
        have hoa := ord_at hs.out
        have hda := div_step a j
        have hdb := div_step b j
        rw [hxe] at hoa hda; rw [hye] at hoa hdb
        have hx : x < 4294967296 := by rw [← hxe]; exact Nat.mod_lt _ (by decide)
        have hy : y < 4294967296 := by rw [← hye]; exact Nat.mod_lt _ (by decide)
        clear hx' hy' hxe hye
        have Hoa := hid hoa; have Hda := hid hda; have Hdb := hid hdb
        clear hoa hda hdb
        by_cases hxy : x = y
        · subst hxy
          go_wp2_with fail
          go_quiet (fail)
          go_wp2_with fail
          go_roundw
          case rel => exact ⟨j, _, by omega, rfl, (by show a / 4294967296 ^ j = b / 4294967296 ^ j; rw [Hda.out, Hdb.out, hs.out]), rfl⟩
          case measure => simp [intOf]
        · have hxy' : ((x : Int) == y) = false := by rw [beq_eq_false_iff_ne]; omega
          have hxy2 : ((x : Int) != y) = true := by rw [bne_iff_ne]; omega
          have hres : Hid (sg ((x : Int) - y) = ord a b) := hid (by
            rw [Hoa.out hxy]; unfold sg
            by_cases hlt : x < y
            · rw [if_pos (by omega), if_pos hlt]
            · rw [if_neg (by omega), if_neg (by omega), if_neg hlt])
          go_wp2_with fail
          go_quiet (fail)
          go_wp2_with fail
          go_quiet ((go_at_call 111; exact quiet_add_left (sign_any _ _)))
          go_wp2_with fail
          go_ret
          exact ⟨retI hres.out, _, by rw [World.drewN_drewN, World.drewN_drewN]⟩
  · have hne : ((n : Int) == m) = false := by rw [beq_eq_false_iff_ne]; omega
    have hne2 : ((n : Int) != m) = true := by rw [bne_iff_ne]; omega
    have hres : Hid (sg ((n : Int) - m) = ord a b) := hid (by
      unfold sg
      by_cases hlt : n < m
      · rw [if_pos (by omega), ord_len_lt (by rw [hla.out, hlb.out]; exact hlt)]
      · rw [if_neg (by omega), if_neg (by omega), ord_len_gt (by rw [hla.out, hlb.out]; omega)])
    go_enter Tryz.func80, Tryz.ntmps80
    go_wp2_with fail
    refine (sign_any _ _).mono ?_; rintro e w1 ⟨rfl, rfl⟩
    go_wp2_with fail
    go_ret
    exact ⟨retI hres.out, 0, rfl⟩

theorem isOne_any (a : Nat) (ao : Option Addr) (n cap : Nat) (w : World) (hA : Sl w ao n cap (u32s (dig a))) :
    Calls Tryz.prog 95 #[.slice ao n cap] w fun e w' => e = .returned (.bool (decide (a = 1))) ∧ w = w' := by
  have hl := hA.lenU
  by_cases h1 : n = 1
  · subst h1
    obtain ⟨x, hx', b, off, rfl, hcell⟩ := hA.u32 (show 0 < 1 by omega)
    have hax : a = x := by
      have h2 := dig_at a 0
      rw [List.getD, hx'] at h2
      have h3 := dig_lt a
      rw [hl] at h3
      simp at h2 h3
      omega
    subst hax
    have hd : decide (a = 1) = decide ((a : Int) = 1) := by rw [decide_eq_decide]; omega
    rw [hd]
    clear hx' hl
    rw [Nat.add_zero] at hcell
    go_enter Tryz.func95, Tryz.ntmps95
    go_wp2_with fail
    go_ret
    exact ⟨retB (by rw [Bool.eq_iff_iff]; simp), rfl⟩
  · have hd : decide (a = 1) = false := by
      rw [decide_eq_false_iff_not]; rintro rfl
      rw [dig_pos (by decide), dig_zero] at hl; simp at hl; omega
    have h2 : ((n : Int) == 1) = false := by rw [beq_eq_false_iff_ne]; omega
    rw [hd]
    clear hl
    go_enter Tryz.func95, Tryz.ntmps95
    go_wp2_with fail
    go_ret
    exact ⟨rfl, rfl⟩

/-- Two lists of limbs are equal. -/
theorem same_any (A B : List Nat) (ao bo : Option Addr) (n m cap cap' : Nat) (w : World) (hA : Sl w ao n cap (u32s A)) (hB : Sl w bo m cap' (u32s B)) :
    Calls Tryz.prog 59 #[.slice ao n cap, .slice bo m cap'] w fun e w' => e = .returned (.bool (decide (A = B))) ∧ ∃ q, w' = w.drewN q := by
  have hn := hA.bound
  have hm := hB.bound
  have hla := hid hA.lenU
  have hlb := hid hB.lenU
  by_cases hnm : n = m
  · subst hnm
    go_enter Tryz.func59, Tryz.ntmps59
    go_wp2_with fail
    go_loopw [5] (fun i wr => ∃ k q : Nat, k ≤ n ∧ i = .int .i64 (k : Int) ∧ Hid (A.take k = B.take k) ∧ wr = w.drewN q) (fun i _ => n - (intOf i).toNat)
    case atStart => exact ⟨0, 0, by omega, rfl, hid (by simp), rfl⟩
    case round =>
      obtain ⟨k, q, hk, rfl, hs, rfl⟩ := hrel
      by_cases hlt : k < n
      · obtain ⟨x, hx', bx, ox, rfl, hcx⟩ := hA.u32 hlt
        obtain ⟨y, hy', byy, oy, rfl, hcy⟩ := hB.u32 hlt
        have Hx := hid hx'; have Hy := hid hy'
        clear hx' hy'
        by_cases hxy : x = y
        · subst hxy
          go_wp2_with fail
          go_quiet (fail)
          go_wp2_with fail
          go_roundw
          case rel => exact ⟨k + 1, _, by omega, by go_num, hid (by rw [take_snoc Hx.out, take_snoc Hy.out, hs.out]), rfl⟩
          case measure => simp [intOf]; omega
        · have hxy' : ((x : Int) == y) = false := by rw [beq_eq_false_iff_ne]; omega
          have hxy2 : ((x : Int) != y) = true := by rw [bne_iff_ne]; omega
          have hne : Hid (decide (A = B) = false) := hid (by
            rw [decide_eq_false_iff_not]; rintro rfl
            have := Hx.out.symm.trans Hy.out
            exact hxy (by simpa using this))
          go_wp2_with fail
          go_quiet (fail)
          go_wp2_with fail
          go_ret
          exact ⟨retB hne.out.symm, _, by rw [World.drewN_drewN]⟩
      · have he : Hid (decide (A = B) = true) := hid (by
          rw [decide_eq_true_eq]
          have := hs.out
          rwa [List.take_of_length_le (by rw [hla.out]; omega), List.take_of_length_le (by rw [hlb.out]; omega)] at this)
        go_wp2_with fail
        go_ret
        exact ⟨retB he.out.symm, _, rfl⟩
  · have hne : ((n : Int) == m) = false := by rw [beq_eq_false_iff_ne]; omega
    have hne2 : ((n : Int) != m) = true := by rw [bne_iff_ne]; omega
    have hd : Hid (decide (A = B) = false) := hid (by
      rw [decide_eq_false_iff_not]; rintro rfl
      have h1 := hla.out; have h2 := hlb.out; omega)
    go_enter Tryz.func59, Tryz.ntmps59
    go_wp2_with fail
    go_ret
    exact ⟨retB hd.out.symm, 0, rfl⟩

/-- Two limbs in new memory. -/
theorem two_limbs {w : World} (x y : Nat) (hx : x < 4294967296) (hy : y < 4294967296) : Sl (w.alloc (.cells #[.int .u32 (x : Int), .int .u32 (y : Int)] 102)) (some ⟨w.heap.size, 0, none⟩) 2 2 (u32s [x, y]) ∧ Lim [x, y] ∧ val [x, y] = x + 4294967296 * y :=
  ⟨Sl.lit w [.int .u32 (x : Int), .int .u32 (y : Int)] 102 (by simp [maxLen]), lim_cons.2 ⟨hx, lim_cons.2 ⟨hy, lim_nil⟩⟩, by simp [val]⟩

theorem natural_any (v : Nat) (hv : v < 18446744073709551616) (w : World) : Calls Tryz.prog 106 #[.int .u64 (v : Int)] w (NumOut w v) := by
  obtain ⟨x, hx⟩ : ∃ x : Nat, (v : Int) % 4294967296 = x := ⟨v % 4294967296, rfl⟩
  obtain ⟨y, hy⟩ : ∃ y : Nat, (v : Int) / 4294967296 = y := ⟨v / 4294967296, rfl⟩
  have hxb : x < 4294967296 := by omega
  have hyb : y < 4294967296 := by omega
  obtain ⟨s1, hl, hv2⟩ := two_limbs (w := w) x y hxb hyb
  have hres : Hid (val [x, y] = v) := hid (by rw [hv2]; omega)
  clear hv2
  have hown : (w.alloc (.cells #[.int .u32 (x : Int), .int .u32 (y : Int)] 102)).ownsRow w.heap.size 102 1 (.slice (some ⟨w.heap.size, 0, none⟩) 2 2) 2 (u32s [x, y]) :=
    World.ownsRow_lit w #[.int .u32 (x : Int), .int .u32 (y : Int)] 2 (Nat.le_refl _) (by decide) rfl
  go_enter Tryz.func106, Tryz.ntmps106
  go_wp2_with fail
  refine (trim_any [x, y] _ _ _ _ s1).mono ?_; rintro e w2 ⟨⟨k', rfl, hk', hs'⟩, rfl⟩
  have Hs' := hid hs'; clear hs'
  go_wp2_with fail
  go_ret
  exact NumOut.ofOwn hown hl hres.out hk' Hs'.out (below_alloc _)

theorem absolute_any (v : Int) (h1 : -9223372036854775808 ≤ v) (h2 : v ≤ 9223372036854775807) (w : World) : Calls Tryz.prog 107 #[.int .i64 v] w fun e w' => e = .returned (.int .u64 (v.natAbs : Int)) ∧ w = w' := by
  by_cases h : v < 0
  · obtain ⟨y, hy⟩ : ∃ y : Nat, (v.natAbs : Int) = y := ⟨_, rfl⟩
    have e1 : IntKind.u64.wrap (-(v + 1)) = -(v + 1) := by rw [wrapU]; omega
    have e2 : -(v + 1) + 1 = (y : Int) := by omega
    rw [hy]
    have hyb : 1 ≤ y := by omega
    have hyb2 : y ≤ 9223372036854775808 := by omega
    clear hy
    go_enter Tryz.func107, Tryz.ntmps107
    go_wp2_with fail
    go_ret
    exact ⟨rfl, rfl⟩
  · obtain ⟨n, rfl⟩ := Int.eq_ofNat_of_zero_le (show 0 ≤ v by omega)
    rw [Int.natAbs_natCast]
    go_enter Tryz.func107, Tryz.ntmps107
    go_wp2_with fail
    go_ret
    exact ⟨rfl, rfl⟩

end Go.Proofs.YtgohfieleckmgaaGreatDoor
