/-
  Contracts: limbs.at, clean, cmp. No condition but sizes.
-/
import Derived.Test.YteancfcmiiddiaaProg
import Derived.Test.YteancfcmiiddiaaNat
namespace Go.Proofs.Yteancfcmiiddiaa
open Go.RowKit

theorem Sl.u32 {w : World} {ao : Option Addr} {n cap : Nat} {l : List Nat} (h : Sl w ao n cap (u32s l)) {k : Nat} (hk : k < n) :
    ∃ x, l[k]? = some x ∧ ∃ b off, ao = some ⟨b, off, none⟩ ∧ w.cell? ⟨b, off + k, none⟩ = some (.int .u32 (x : Int)) := h.get hk
theorem Sl.lenU {w : World} {ao : Option Addr} {n cap : Nat} {l : List Nat} (h : Sl w ao n cap (u32s l)) : l.length = n := h.lenMap

theorem at_any (l : List Nat) (hl : Lim l) (i x : Nat) (hX : l.getD i 0 = x) (ao : Option Addr) (n cap : Nat) (w : World) (h : Sl w ao n cap (u32s l)) :
    Calls Try.prog 157 #[.slice ao n cap, .int .i64 i] w fun e w' => e = .returned (.int .u64 (x : Int)) ∧ w = w' := by
  have hb := h.bound
  have hn := hid h.lenU
  have hX' := hid hX; clear hX
  by_cases hi : i < n
  · obtain ⟨y, hx', b, off, rfl, hcell⟩ := h.u32 hi
    have hxb := hl y (List.mem_of_getElem? hx')
    obtain rfl : x = y := by rw [← hX'.out, List.getD, hx']; rfl
    clear hx'
    go_enter Try.func157, Try.ntmps157
    go_wp2_with fail
    go_ret
    exact ⟨rfl, rfl⟩
  · obtain rfl : x = 0 := by rw [← hX'.out, List.getD, List.getElem?_eq_none (by rw [hn.out]; omega)]; rfl
    go_enter Try.func157, Try.ntmps157
    go_wp2_with fail
    go_ret
    exact ⟨rfl, rfl⟩

/-- The length in a slot. -/
def slLen : Value → Nat | .slice _ k _ => k | _ => 0

theorem strip_snoc_zero (l : List Nat) : strip (l ++ [0]) = strip l := by
  induction l with
  | nil => simp [strip]
  | cons x l ih => simp [strip, ih]

theorem strip_snoc {l : List Nat} {x : Nat} (h : x ≠ 0) : strip (l ++ [x]) = l ++ [x] := by
  induction l with
  | nil => simp [strip, h]
  | cons y l ih => simp [strip, ih]

set_option maxHeartbeats 400000 in
theorem clean_any (l : List Nat) (ao : Option Addr) (n cap : Nat) (w : World) (h : Sl w ao n cap (u32s l)) :
    Calls Try.prog 158 #[.slice ao n cap] w fun e w' => (∃ k, e = .returned (.slice ao k cap) ∧ k ≤ n ∧ strip l = l.take k) ∧ w = w' := by
  have hb := h.bound
  have hn := hid h.lenU
  have hle := h.le
  go_enter Try.func158, Try.ntmps158
  go_wp2_with fail
  go_loop [0] (fun v => ∃ k : Nat, k ≤ n ∧ v = .slice ao k cap ∧ Hid (strip (l.take k) = strip l)) (fun v => slLen v)
  case atStart => exact ⟨n, Nat.le_refl _, rfl, by rw [List.take_of_length_le (by rw [hn.out]; omega)]; exact rfl⟩
  case round =>
    obtain ⟨k, hk, rfl, hs⟩ := hrel
    cases k with
    | zero =>
      go_wp2_with fail
      go_ret
      exact ⟨⟨0, rfl, by omega, by rw [← hs.out]; simp [strip]⟩, rfl⟩
    | succ j =>
      obtain ⟨x, hx', b, off, rfl, hcell⟩ := h.u32 (show j < n by omega)
      have hx := hid hx'; clear hx'
      have hj : j + 1 ≤ cap := by omega
      by_cases hz : x = 0
      · subst hz
        go_wp2_with fail
        go_round
        case rel => exact ⟨j, by omega, rfl, by show strip (l.take j) = strip l; rw [← hs.out, take_snoc hx.out, strip_snoc_zero]⟩
        case measure => simp [slLen]
      · go_wp2_with fail
        go_ret
        exact ⟨⟨j + 1, rfl, hk, by rw [← hs.out, take_snoc hx.out, strip_snoc hz]⟩, rfl⟩

theorem takeU {w : World} {ao : Option Addr} {n cap k : Nat} {l : List Nat} (h : Sl w ao n cap (u32s l)) (hk : k ≤ n) (e : strip l = l.take k) : Sl w ao k cap (u32s (strip l)) := by
  rw [e]; exact h.takeMap hk

/-- -1, 0 or 1. -/
def ord (a b : Nat) : Int := if a < b then -1 else if a = b then 0 else 1

theorem div_step (a j : Nat) : a / 4294967296 ^ j = a / 4294967296 ^ j % 4294967296 + 4294967296 * (a / 4294967296 ^ (j + 1)) := by
  rw [Nat.pow_succ, ← Nat.div_div_eq_div_mul]; omega

theorem ord_at {a b j : Nat} (h : a / 4294967296 ^ (j + 1) = b / 4294967296 ^ (j + 1)) (hne : a / 4294967296 ^ j % 4294967296 ≠ b / 4294967296 ^ j % 4294967296) :
    ord a b = if a / 4294967296 ^ j % 4294967296 < b / 4294967296 ^ j % 4294967296 then -1 else 1 := by
  have h1 := div_step a j
  have h2 := div_step b j
  rw [h] at h1
  generalize a / 4294967296 ^ j % 4294967296 = x at *
  generalize b / 4294967296 ^ j % 4294967296 = y at *
  have hlt : a / 4294967296 ^ j < b / 4294967296 ^ j → a < b := fun hh => by
    by_cases hc : b ≤ a
    · have := Nat.div_le_div_right (c := 4294967296 ^ j) hc; omega
    · omega
  have hgt : b / 4294967296 ^ j < a / 4294967296 ^ j → b < a := fun hh => by
    by_cases hc : a ≤ b
    · have := Nat.div_le_div_right (c := 4294967296 ^ j) hc; omega
    · omega
  unfold ord
  by_cases hxy : x < y
  · rw [if_pos (hlt (by omega)), if_pos hxy]
  · have := hgt (by omega)
    rw [if_neg (by omega), if_neg (by omega), if_neg hxy]

set_option maxHeartbeats 400000 in
theorem cmp_any (a b : List Nat) (ha : Lim a) (hb : Lim b) (ao bo : Option Addr) (n m cap cap' : Nat) (w : World) (hA : Sl w ao n cap (u32s a)) (hB : Sl w bo m cap' (u32s b)) :
    Calls Try.prog 153 #[.slice ao n cap, .slice bo m cap'] w fun e w' => e = .returned (.int .i64 (ord (val a) (val b))) ∧ w = w' := by
  have hn := hA.bound
  have hm := hB.bound
  have hla := hid hA.lenU
  have hlb := hid hB.lenU
  have ha' := hid (limb_at ha)
  have hb' := hid (limb_at hb)
  have start : ∀ k, n ≤ k → m ≤ k → val a / 4294967296 ^ k = val b / 4294967296 ^ k := fun k h1 h2 => by
    rw [Nat.div_eq_of_lt (Nat.lt_of_lt_of_le (val_lt ha) (Nat.pow_le_pow_right (by decide) (by rw [hla.out]; exact h1))), Nat.div_eq_of_lt (Nat.lt_of_lt_of_le (val_lt hb) (Nat.pow_le_pow_right (by decide) (by rw [hlb.out]; exact h2)))]
  have hst := hid start
  clear start
  go_enter Try.func153, Try.ntmps153
  go_wp2_with fail
  all_goals
    go_loop [5] (fun i => ∃ k : Nat, (k ≤ n ∨ k ≤ m) ∧ i = .int .i64 ((k : Int) - 1) ∧ Hid (val a / 4294967296 ^ k = val b / 4294967296 ^ k)) (fun i => (intOf i + 1).toNat)
    case atStart => first | exact ⟨m, .inr (by omega), rfl, hst.out m (by omega) (by omega)⟩ | exact ⟨n, .inl (by omega), rfl, hst.out n (by omega) (by omega)⟩
    case round =>
      obtain ⟨k, hk, rfl, hs⟩ := hrel
      cases k with
      | zero =>
        go_wp2_with fail
        go_ret
        refine ⟨retI ?_, rfl⟩
        have := hs.out
        simp at this
        simp [ord, this]
      | succ j =>
        have hj : ((j + 1 : Nat) : Int) - 1 = j := by omega
        rw [hj]
        have hj' : j ≤ 9223372036854775807 := by omega
        clear hj
        have hx : val a / 4294967296 ^ j % 4294967296 < 4294967296 := Nat.mod_lt _ (by decide)
        have hy : val b / 4294967296 ^ j % 4294967296 < 4294967296 := Nat.mod_lt _ (by decide)
        have hoa := ord_at hs.out
        have hda := div_step (val a) j
        have hdb := div_step (val b) j
        have hga := ha'.out j
        have hgb := hb'.out j
        generalize val a / 4294967296 ^ j % 4294967296 = x at *
        generalize val b / 4294967296 ^ j % 4294967296 = y at *
        have Hoa := hid hoa; have Hda := hid hda; have Hdb := hid hdb; have Hga := hid hga; have Hgb := hid hgb
        clear hoa hda hdb hga hgb
        go_wp2_with fail
        refine (at_any a ha j x Hga.out _ _ _ _ hA).mono ?_; rintro e w1 ⟨rfl, rfl⟩
        go_wp2_with fail
        refine (at_any b hb j y Hgb.out _ _ _ _ hB).mono ?_; rintro e w1 ⟨rfl, rfl⟩
        by_cases hxy : x = y
        · subst hxy
          go_wp2_with fail
          go_round
          case rel => exact ⟨j, by omega, rfl, by show val a / 4294967296 ^ j = val b / 4294967296 ^ j; rw [Hda.out, Hdb.out, hs.out]⟩
          case measure => simp [intOf]
        · by_cases hlt : x < y
          · have hw : IntKind.u64.wrap ((x : Int) - y) / 9223372036854775808 = 1 := by rw [wrapU]; omega
            go_wp2_with fail
            go_ret
            exact ⟨retI (by rw [Hoa.out hxy, if_pos hlt]), rfl⟩
          · have hw : ((x : Int) - y) / 9223372036854775808 = 0 := by omega
            go_wp2_with fail
            go_ret
            exact ⟨retI (by rw [Hoa.out hxy, if_neg (by omega)]), rfl⟩

end Go.Proofs.Yteancfcmiiddiaa
