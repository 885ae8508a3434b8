/-
  Joined out of XLimA, XLimB, XLimC, XLimD, XLimE, XLimF.
-/
import Derived.Test.YtgohfieleckmgaaGreatDoorProg
import Derived.Test.YtgohfieleckmgaaGreatDoorNat
import Derived.Test.YtgohfieleckmgaaGreatDoorApp
import Derived.BigQuiet
import Derived.Deep.RegionWith

/-
  Contracts: limbs.at, clean, cmp. No condition but sizes.
-/
namespace Go.Proofs.YtgohfieleckmgaaGreatDoor
open Go.RowKit

theorem Sl.u32 {w : World} {ao : Option Addr} {n cap : Nat} {l : List Nat} (h : Sl w ao n cap (u32s l)) {k : Nat} (hk : k < n) :
    ∃ x, l[k]? = some x ∧ ∃ b off, ao = some ⟨b, off, none⟩ ∧ w.cell? ⟨b, off + k, none⟩ = some (.int .u32 (x : Int)) := h.get hk
theorem Sl.lenU {w : World} {ao : Option Addr} {n cap : Nat} {l : List Nat} (h : Sl w ao n cap (u32s l)) : l.length = n := h.lenMap

theorem at_any (l : List Nat) (hl : Lim l) (i x : Nat) (hX : l.getD i 0 = x) (ao : Option Addr) (n cap : Nat) (w : World) (h : Sl w ao n cap (u32s l)) :
    Calls Tryz.prog 132 #[.slice ao n cap, .int .i64 i] w fun e w' => e = .returned (.int .u64 (x : Int)) ∧ w = w' := by
  have hb := h.bound
  have hn := hid h.lenU
  have hX' := hid hX; clear hX
  by_cases hi : i < n
  · obtain ⟨y, hx', b, off, rfl, hcell⟩ := h.u32 hi
    have hxb := hl y (List.mem_of_getElem? hx')
    obtain rfl : x = y := by rw [← hX'.out, List.getD, hx']; rfl
    clear hx'
    go_enter Tryz.func132, Tryz.ntmps132
    go_wp2_with fail
    go_ret
    exact ⟨rfl, rfl⟩
  · obtain rfl : x = 0 := by rw [← hX'.out, List.getD, List.getElem?_eq_none (by rw [hn.out]; omega)]; rfl
    go_enter Tryz.func132, Tryz.ntmps132
    go_wp2_with fail
    go_ret
    exact ⟨rfl, rfl⟩

/-- The length in a slot. -/
def slLen : Value → Nat | .slice _ k _ => k | _ => 0

theorem strip_snoc_zero (l : List Nat) : strip (l ++ [0]) = strip l := by
  induction l with
  | nil => simp [strip]
  | cons x l ih => simp [strip, ih]

theorem strip_snoc {l : List Nat} {x : Nat} (h : x ≠ 0) : strip (l ++ [x]) = l ++ [x] := by
  induction l with
  | nil => simp [strip, h]
  | cons y l ih => simp [strip, ih]

set_option maxHeartbeats 400000 in
theorem clean_any (l : List Nat) (ao : Option Addr) (n cap : Nat) (w : World) (h : Sl w ao n cap (u32s l)) :
    Calls Tryz.prog 133 #[.slice ao n cap] w fun e w' => (∃ k, e = .returned (.slice ao k cap) ∧ k ≤ n ∧ strip l = l.take k) ∧ w = w' := by
  have hb := h.bound
  have hn := hid h.lenU
  have hle := h.le
  go_enter Tryz.func133, Tryz.ntmps133
  go_wp2_with fail
  go_loop [0] (fun v => ∃ k : Nat, k ≤ n ∧ v = .slice ao k cap ∧ Hid (strip (l.take k) = strip l)) (fun v => slLen v)
  case atStart => exact ⟨n, Nat.le_refl _, rfl, by rw [List.take_of_length_le (by rw [hn.out]; omega)]; exact rfl⟩
  case round =>
    obtain ⟨k, hk, rfl, hs⟩ := hrel
    cases k with
    | zero =>
      go_wp2_with fail
      go_ret
      exact ⟨⟨0, rfl, by omega, by rw [← hs.out]; simp [strip]⟩, rfl⟩
    | succ j =>
      obtain ⟨x, hx', b, off, rfl, hcell⟩ := h.u32 (show j < n by omega)
      have hx := hid hx'; clear hx'
      have hj : j + 1 ≤ cap := by omega
      by_cases hz : x = 0
      · subst hz
        go_wp2_with fail
        go_round
        case rel => exact ⟨j, by omega, rfl, by show strip (l.take j) = strip l; rw [← hs.out, take_snoc hx.out, strip_snoc_zero]⟩
        case measure => simp [slLen]
      · go_wp2_with fail
        go_ret
        exact ⟨⟨j + 1, rfl, hk, by rw [← hs.out, take_snoc hx.out, strip_snoc hz]⟩, rfl⟩

theorem takeU {w : World} {ao : Option Addr} {n cap k : Nat} {l : List Nat} (h : Sl w ao n cap (u32s l)) (hk : k ≤ n) (e : strip l = l.take k) : Sl w ao k cap (u32s (strip l)) := by
  rw [e]; exact h.takeMap hk

/-- -1, 0 or 1. -/
def ord (a b : Nat) : Int := if a < b then -1 else if a = b then 0 else 1

theorem div_step (a j : Nat) : a / 4294967296 ^ j = a / 4294967296 ^ j % 4294967296 + 4294967296 * (a / 4294967296 ^ (j + 1)) := by
  rw [Nat.pow_succ, ← Nat.div_div_eq_div_mul]; omega

theorem ord_at {a b j : Nat} (h : a / 4294967296 ^ (j + 1) = b / 4294967296 ^ (j + 1)) (hne : a / 4294967296 ^ j % 4294967296 ≠ b / 4294967296 ^ j % 4294967296) :
    ord a b = if a / 4294967296 ^ j % 4294967296 < b / 4294967296 ^ j % 4294967296 then -1 else 1 := by
  have h1 := div_step a j
  have h2 := div_step b j
  rw [h] at h1
  generalize a / 4294967296 ^ j % 4294967296 = x at *
  generalize b / 4294967296 ^ j % 4294967296 = y at *
  have hlt : a / 4294967296 ^ j < b / 4294967296 ^ j → a < b := fun hh => by
    by_cases hc : b ≤ a
    · have := Nat.div_le_div_right (c := 4294967296 ^ j) hc; omega
    · omega
  have hgt : b / 4294967296 ^ j < a / 4294967296 ^ j → b < a := fun hh => by
    by_cases hc : a ≤ b
    · have := Nat.div_le_div_right (c := 4294967296 ^ j) hc; omega
    · omega
  unfold ord
  by_cases hxy : x < y
  · rw [if_pos (hlt (by omega)), if_pos hxy]
  · have := hgt (by omega)
    rw [if_neg (by omega), if_neg (by omega), if_neg hxy]

set_option maxHeartbeats 400000 in
theorem cmp_any (a b : List Nat) (ha : Lim a) (hb : Lim b) (ao bo : Option Addr) (n m cap cap' : Nat) (w : World) (hA : Sl w ao n cap (u32s a)) (hB : Sl w bo m cap' (u32s b)) :
    Calls Tryz.prog 126 #[.slice ao n cap, .slice bo m cap'] w fun e w' => e = .returned (.int .i64 (ord (val a) (val b))) ∧ w = w' := by
  have hn := hA.bound
  have hm := hB.bound
  have hla := hid hA.lenU
  have hlb := hid hB.lenU
  have ha' := hid (limb_at ha)
  have hb' := hid (limb_at hb)
  have start : ∀ k, n ≤ k → m ≤ k → val a / 4294967296 ^ k = val b / 4294967296 ^ k := fun k h1 h2 => by
    rw [Nat.div_eq_of_lt (Nat.lt_of_lt_of_le (val_lt ha) (Nat.pow_le_pow_right (by decide) (by rw [hla.out]; exact h1))), Nat.div_eq_of_lt (Nat.lt_of_lt_of_le (val_lt hb) (Nat.pow_le_pow_right (by decide) (by rw [hlb.out]; exact h2)))]
  have hst := hid start
  clear start
  go_enter Tryz.func126, Tryz.ntmps126
  go_wp2_with fail
  all_goals
    go_loop [5] (fun i => ∃ k : Nat, (k ≤ n ∨ k ≤ m) ∧ i = .int .i64 ((k : Int) - 1) ∧ Hid (val a / 4294967296 ^ k = val b / 4294967296 ^ k)) (fun i => (intOf i + 1).toNat)
    case atStart => first | exact ⟨m, .inr (by omega), rfl, hst.out m (by omega) (by omega)⟩ | exact ⟨n, .inl (by omega), rfl, hst.out n (by omega) (by omega)⟩
    case round =>
      obtain ⟨k, hk, rfl, hs⟩ := hrel
      cases k with
      | zero =>
        go_wp2_with fail
        go_ret
        refine ⟨retI ?_, rfl⟩
        have := hs.out
        simp at this
        simp [ord, this]
      | succ j =>
        have hj : ((j + 1 : Nat) : Int) - 1 = j := by omega
        rw [hj]
        have hj' : j ≤ 9223372036854775807 := by omega
        clear hj
        have hx : val a / 4294967296 ^ j % 4294967296 < 4294967296 := Nat.mod_lt _ (by decide)
        have hy : val b / 4294967296 ^ j % 4294967296 < 4294967296 := Nat.mod_lt _ (by decide)
        have hoa := ord_at hs.out
        have hda := div_step (val a) j
        have hdb := div_step (val b) j
        have hga := ha'.out j
        have hgb := hb'.out j
        generalize val a / 4294967296 ^ j % 4294967296 = x at *
        generalize val b / 4294967296 ^ j % 4294967296 = y at *
        have Hoa := hid hoa; have Hda := hid hda; have Hdb := hid hdb; have Hga := hid hga; have Hgb := hid hgb
        clear hoa hda hdb hga hgb
        go_wp2_with fail
        refine (at_any a ha j x Hga.out _ _ _ _ hA).mono ?_; rintro e w1 ⟨rfl, rfl⟩
        go_wp2_with fail
        refine (at_any b hb j y Hgb.out _ _ _ _ hB).mono ?_; rintro e w1 ⟨rfl, rfl⟩
        by_cases hxy : x = y
        · subst hxy
          go_wp2_with fail
          go_round
          case rel => exact ⟨j, by omega, rfl, by show val a / 4294967296 ^ j = val b / 4294967296 ^ j; rw [Hda.out, Hdb.out, hs.out]⟩
          case measure => simp [intOf]
        · by_cases hlt : x < y
          · have hw : IntKind.u64.wrap ((x : Int) - y) / 9223372036854775808 = 1 := by rw [wrapU]; omega
            go_wp2_with fail
            go_ret
            exact ⟨retI (by rw [Hoa.out hxy, if_pos hlt]), rfl⟩
          · have hw : ((x : Int) - y) / 9223372036854775808 = 0 := by omega
            go_wp2_with fail
            go_ret
            exact ⟨retI (by rw [Hoa.out hxy, if_neg (by omega)]), rfl⟩

end Go.Proofs.YtgohfieleckmgaaGreatDoor

/-
  Contracts: limbs.plus, minus. No condition but sizes.
-/
namespace Go.Proofs.YtgohfieleckmgaaGreatDoor
open Go.RowKit

theorem Tryz.infoU32 : (Tryz.prog.info? 102).map (fun i => (i.zero, i.size, i.bytes)) = some (some (.int .u32 0), 1, 4) := by kernel_rfl

/-- What a function of limbs returns: a number. -/
def NumOut (w : World) (r : Nat) (e : Ending) (w' : World) : Prop :=
  ∃ ao k cap, e = .returned (.slice ao k cap) ∧ Sl w' ao k cap (u32s (dig r)) ∧ (ao = none → cap = 0) ∧ Below w.heap.size w w' ∧ ∀ a, ao = some a → w.heap.size ≤ a.block

/-- What a call owns, cleaned. -/
theorem NumOut.ofOwn {w w' : World} {e : TypeId} {ao : Option Addr} {n cap k r : Nat} {l : List Nat} (h : w'.ownsRow w.heap.size e 1 (.slice ao n cap) n (u32s l)) (hl : Lim l) (hr : val l = r)
    (hk : k ≤ n) (hs : strip l = l.take k) (hb : Below w.heap.size w w') : NumOut w r (.returned (.slice ao k cap)) w' := by
  obtain ⟨ao', cap', hv, hsl⟩ := ownsSl h
  injection hv with e1 e2 e3
  subst e1; subst e3
  refine ⟨ao, k, cap, rfl, ?_, ?_, hb, ?_⟩
  · rw [← hr, ← strip_eq hl]; exact takeU hsl hk hs
  · rintro rfl
    rcases h.2 with ⟨hv, _⟩ | ⟨g, c, cur, hv, _⟩
    · injection hv
    · injection hv with e1; cases e1
  · rintro a rfl
    rcases h.2 with ⟨hv, _⟩ | ⟨g, c, cur, hv, hg, _⟩
    · injection hv with e1; cases e1
    · injection hv with e1
      injection e1 with e1
      rw [e1]; exact hg

theorem mod_step (a i : Nat) : a % 4294967296 ^ (i + 1) = a % 4294967296 ^ i + 4294967296 ^ i * (a / 4294967296 ^ i % 4294967296) := by
  rw [Nat.pow_succ, Nat.mod_mul]

/-- One round of plus. -/
theorem plus_step {a b i c : Nat} {o : List Nat} (hlen : o.length = i) (h : val o + 4294967296 ^ i * c = a % 4294967296 ^ i + b % 4294967296 ^ i) (x y : Nat) (hx : x = a / 4294967296 ^ i % 4294967296) (hy : y = b / 4294967296 ^ i % 4294967296) :
    val (o ++ [(c + (x + y)) % 4294967296]) + 4294967296 ^ (i + 1) * ((c + (x + y)) / 4294967296) = a % 4294967296 ^ (i + 1) + b % 4294967296 ^ (i + 1) := by
  rw [val_append, hlen, mod_step a i, mod_step b i, ← hx, ← hy, Nat.pow_succ]
  simp only [val]
  generalize 4294967296 ^ i = p at *
  have h1 := Nat.mod_add_div (c + (x + y)) 4294967296
  generalize (c + (x + y)) % 4294967296 = r at *
  generalize (c + (x + y)) / 4294967296 = q at *
  have h2 : p * (r + 4294967296 * q) = p * (c + (x + y)) := by rw [h1]
  simp only [Nat.mul_add, Nat.mul_zero, Nat.add_zero, ← Nat.mul_assoc] at h2 ⊢
  omega

set_option maxHeartbeats 1000000 in
theorem plus_any (a b : List Nat) (ha : Lim a) (hb : Lim b) (ao bo : Option Addr) (n m cap cap' : Nat) (w : World) (hA : Sl w ao n cap (u32s a)) (hB : Sl w bo m cap' (u32s b)) (hn : n ≤ 1099511627776) (hm : m ≤ 1099511627776) :
    Calls Tryz.prog 136 #[.slice ao n cap, .slice bo m cap'] w (NumOut w (val a + val b)) := by
  have hla := hid hA.lenU
  have hlb := hid hB.lenU
  have ha' := hid (limb_at ha)
  have hb' := hid (limb_at hb)
  obtain ⟨M, hM1, hM2, hM⟩ : ∃ M, n ≤ M ∧ m ≤ M ∧ (M = n ∨ M = m) := ⟨max n m, Nat.le_max_left _ _, Nat.le_max_right _ _, by omega⟩
  go_enter Tryz.func136, Tryz.ntmps136
  go_wp2_with fail
  go_loopw [5, 6, 7] (fun v s i wr => ∃ (k c : Nat) (o : List Nat), k ≤ M + 1 ∧ i = .int .i64 k ∧ s = .int .u64 c ∧ c ≤ 1 ∧ (k = M + 1 → c = 0) ∧ Hid (o.length = k) ∧ Lim o ∧ Hid (val o + 4294967296 ^ k * c = val a % 4294967296 ^ k + val b % 4294967296 ^ k) ∧
      wr.ownsRow w.heap.size 102 1 v k (u32s o) ∧ Below w.heap.size w wr) (fun _ _ i _ => M + 1 - (intOf i).toNat)
  case atStart => exact ⟨0, 0, [], by omega, rfl, rfl, by omega, by omega, hid rfl, lim_nil, hid (by simp [val, Nat.mod_one]), World.ownsRow_nil _ _ _ _, Below.refl _ _⟩
  case round =>
    obtain ⟨k, c, o, hk, rfl, rfl, hc, hc0, hlen, hlo, hval, hown, hbel⟩ := hrel
    by_cases hgo : k < M ∨ c = 1
    · have hA1 := hA.next hbel
      have hB1 := hB.next hbel
      have hx : val a / 4294967296 ^ k % 4294967296 < 4294967296 := Nat.mod_lt _ (by decide)
      have hy : val b / 4294967296 ^ k % 4294967296 < 4294967296 := Nat.mod_lt _ (by decide)
      have hst := plus_step hlen.out hval.out _ _ rfl rfl
      have hga := ha'.out k
      have hgb := hb'.out k
      have htop : k = M → val a / 4294967296 ^ k % 4294967296 = 0 ∧ val b / 4294967296 ^ k % 4294967296 = 0 := fun e => by
        subst e
        rw [Nat.div_eq_of_lt (Nat.lt_of_lt_of_le (val_lt ha) (Nat.pow_le_pow_right (by decide) (by rw [hla.out]; exact hM1))), Nat.div_eq_of_lt (Nat.lt_of_lt_of_le (val_lt hb) (Nat.pow_le_pow_right (by decide) (by rw [hlb.out]; exact hM2)))]
        exact ⟨rfl, rfl⟩
      generalize val a / 4294967296 ^ k % 4294967296 = x at *
      generalize val b / 4294967296 ^ k % 4294967296 = y at *
      have Hst := hid hst; have Hga := hid hga; have Hgb := hid hgb; have Htop := hid htop
      clear hst hga hgb htop
      have hkM : k ≤ M := by
        rcases hgo with h1 | h1
        · omega
        · by_cases h2 : k = M + 1
          · have := hc0 h2; omega
          · omega
      have hc1 : k < M ∨ (M ≤ k ∧ 1 ≤ c) := by omega
      have hkc : Hid (k + 1 = M + 1 → (c + (x + y)) / 4294967296 = 0) := hid (fun e => by have := Htop.out (by omega); omega)
      clear hgo
      rcases Nat.lt_or_ge n m with hnm | hnm
      all_goals
        rcases hc1 with hkk | ⟨hkk, hc2⟩
        all_goals
          go_wp2_with fail
          refine (at_any a ha k x Hga.out _ _ _ _ hA1).mono ?_; rintro e w1 ⟨rfl, rfl⟩
          go_wp2_with fail
          refine (at_any b hb k y Hgb.out _ _ _ _ hB1).mono ?_; rintro e w1 ⟨rfl, rfl⟩
          have hlit : Sl (wr.alloc (.cells #[.int .u32 (((c : Int) + ((x : Int) + (y : Int))) % 4294967296)] 102)) (some ⟨wr.heap.size, 0, none⟩) 1 1 (u32s [(c + (x + y)) % 4294967296]) := by
            have := Sl.lit wr [.int .u32 (((c : Int) + ((x : Int) + (y : Int))) % 4294967296)] 102 (by simp [maxLen])
            simpa [u32s] using this
          go_wp2_with (at_builtin; go_loud (refine wp_app rfl (.tmp 30) (.tmp 33) 108 rfl 102 _ 4 Tryz.underlying108 Tryz.infoU32 rfl w.heap.size _ k _ rfl (hown.alloc _) _ 1 1 _ rfl hlit (fun h => by cases h) (u32s_one _) (by omega) (by omega) (by have := hbel.size; simp only [World.size_alloc]; omega) ?_))
          intro v' w2 hown2 hg2 hb2
          have hbel2 : Below w.heap.size w w2 := (hbel.alloc hbel.size _).trans hb2
          go_wp2_with fail
          go_roundw
          case rel => exact ⟨k + 1, (c + (x + y)) / 4294967296, o ++ [(c + (x + y)) % 4294967296], by omega, by go_num, by simp, by omega, hkc.out, hid (by rw [List.length_append, hlen.out]; rfl), lim_append.2 ⟨hlo, lim_cons.2 ⟨Nat.mod_lt _ (by decide), lim_nil⟩⟩, Hst, by simpa [u32s] using hown2, hbel2⟩
          case measure => simp [intOf]; omega
    · have hkM : M ≤ k := by omega
      obtain rfl : c = 0 := by omega
      have hres : Hid (val o = val a + val b) := hid (by
        have := hval.out
        rw [Nat.mod_eq_of_lt (Nat.lt_of_lt_of_le (val_lt ha) (Nat.pow_le_pow_right (by decide) (by rw [hla.out]; omega))), Nat.mod_eq_of_lt (Nat.lt_of_lt_of_le (val_lt hb) (Nat.pow_le_pow_right (by decide) (by rw [hlb.out]; omega)))] at this
        simpa using this)
      obtain ⟨oo, ocap, rfl, osl⟩ := ownsSl hown
      clear hgo
      rcases Nat.lt_or_ge n m with hnm | hnm
      all_goals
        go_wp2_with fail
        refine (clean_any o _ _ _ _ osl).mono ?_; rintro e w2 ⟨⟨k', rfl, hk', hs'⟩, rfl⟩
        have hs' := hid hs'
        go_wp2_with fail
        go_ret
        exact NumOut.ofOwn hown hlo hres.out hk' hs'.out hbel

end Go.Proofs.YtgohfieleckmgaaGreatDoor

/-
  The contract of limbs.minus. Its condition: the second number is at most the first.
-/
namespace Go.Proofs.YtgohfieleckmgaaGreatDoor
open Go.RowKit

/-- One round of minus. -/
theorem minus_step {a b i c c' z : Nat} {o : List Nat} (hlen : o.length = i) (h : val o + b % 4294967296 ^ i = a % 4294967296 ^ i + 4294967296 ^ i * c) (x y : Nat) (hx : x = a / 4294967296 ^ i % 4294967296) (hy : y = b / 4294967296 ^ i % 4294967296)
    (hz : z + y + c = x + 4294967296 * c') : val (o ++ [z]) + b % 4294967296 ^ (i + 1) = a % 4294967296 ^ (i + 1) + 4294967296 ^ (i + 1) * c' := by
  rw [val_append, hlen, mod_step a i, mod_step b i, ← hx, ← hy, Nat.pow_succ]
  simp only [val]
  generalize 4294967296 ^ i = p at *
  have h2 : p * (z + y + c) = p * (x + 4294967296 * c') := by rw [hz]
  simp only [Nat.mul_add, Nat.mul_zero, Nat.add_zero, ← Nat.mul_assoc] at h2 ⊢
  omega

/-- A row of limbs in the making: k limbs are there. -/
theorem row_cell {w : World} {base : Nat} {e : TypeId} {g n k : Nat} {o : List Nat} (h : w.ownsRow base e 1 (.slice (some ⟨g, 0, none⟩) n n) n (u32s o)) (hk : k < n) : (∃ u, w.cell? ⟨g, k, none⟩ = some u) ∧ w.frozen? ⟨g, k, none⟩ = false := by
  refine ⟨?_, h.frozenAt k⟩
  rw [h.cellAt k (by omega)]
  have := h.1
  exact ⟨(u32s o)[k], by simp⟩

theorem row_store {w : World} {base : Nat} {e : TypeId} {g n k : Nat} {o : List Nat} (h : w.ownsRow base e 1 (.slice (some ⟨g, 0, none⟩) n n) n (u32s o)) (z : Nat) :
    (w.setCell ⟨g, k, none⟩ (.int .u32 (z : Int))).ownsRow base e 1 (.slice (some ⟨g, 0, none⟩) n n) n (u32s (o.set k z)) := by
  have := (h.stored k (.int .u32 (z : Int))).1
  unfold u32s at this ⊢
  rwa [List.map_set]

theorem set_mid {o r : List Nat} {k z y : Nat} (h : o.length = k) : (o ++ y :: r).set k z = (o ++ [z]) ++ r := by
  subst h; simp

set_option maxHeartbeats 1000000 in
theorem minus_any (a b : List Nat) (ha : Lim a) (hb : Lim b) (hle : val b ≤ val a) (ao bo : Option Addr) (n m cap cap' : Nat) (w : World) (hA : Sl w ao n cap (u32s a)) (hB : Sl w bo m cap' (u32s b)) (hn : n ≤ 1099511627776) (_hm : m ≤ 1099511627776) :
    Calls Tryz.prog 137 #[.slice ao n cap, .slice bo m cap'] w (NumOut w (val a - val b)) := by
  have hla := hid hA.lenU
  have ha' := hid (limb_at ha)
  have hb' := hid (limb_at hb)
  go_enter Tryz.func137, Tryz.ntmps137
  go_wp2_with (at_make; go_loud (refine wp_make rfl (.tmp 10) (.tmp 10) 108 rfl 102 _ 4 Tryz.underlying108 Tryz.infoU32 rfl _ _ _ _ n rfl rfl rfl rfl (by omega) (by omega) ?_))
  intro w1 hown _ hb1
  go_wp2_with fail
  go_loopw [6, 14] (fun s i wr => ∃ (k c : Nat) (o : List Nat), k ≤ n ∧ i = .int .i64 k ∧ s = .int .u64 c ∧ c ≤ 1 ∧ Hid (o.length = k) ∧ Lim o ∧ Hid (val o + val b % 4294967296 ^ k = val a % 4294967296 ^ k + 4294967296 ^ k * c) ∧
      wr.ownsRow w.heap.size 102 1 (.slice (some ⟨w.heap.size, 0, none⟩) n n) n (u32s (o ++ List.replicate (n - k) 0)) ∧ Below w.heap.size w wr) (fun _ i _ => n - (intOf i).toNat)
  case atStart => exact ⟨0, 0, [], by omega, rfl, rfl, by omega, hid rfl, lim_nil, hid (by simp [val, Nat.mod_one]), by simpa [u32s] using hown, hb1⟩
  case round =>
    clear hown hb1
    obtain ⟨k, c, o, hk, rfl, rfl, hc, hlen, hlo, hval, hown, hbel⟩ := hrel
    by_cases hlt : k < n
    · have hA1 := hA.next hbel
      have hB1 := hB.next hbel
      have hx : val a / 4294967296 ^ k % 4294967296 < 4294967296 := Nat.mod_lt _ (by decide)
      have hy : val b / 4294967296 ^ k % 4294967296 < 4294967296 := Nat.mod_lt _ (by decide)
      have Hst := hid (fun c' z hz => minus_step (c' := c') (z := z) hlen.out hval.out _ _ rfl rfl hz)
      have hga := ha'.out k
      have hgb := hb'.out k
      generalize val a / 4294967296 ^ k % 4294967296 = x at *
      generalize val b / 4294967296 ^ k % 4294967296 = y at *
      have Hga := hid hga; have Hgb := hid hgb
      clear hga hgb
      obtain ⟨⟨u, hcell⟩, hfr⟩ := row_cell hown hlt
      obtain ⟨z, hz⟩ : ∃ z, z = if y + c ≤ x then x - y - c else x + 4294967296 - y - c := ⟨_, rfl⟩
      obtain ⟨c', hc'⟩ : ∃ c', c' = if y + c ≤ x then 0 else 1 := ⟨_, rfl⟩
      have hcz : Hid (z + y + c = x + 4294967296 * c') := hid (by subst hz hc'; split <;> omega)
      have hzl : z < 4294967296 := by subst hz; split <;> omega
      have hcl : c' ≤ 1 := by subst hc'; split <;> omega
      have fin : ∀ wx : World, wx = wr.setCell ⟨w.heap.size, k, none⟩ (.int .u32 (z : Int)) → wx.ownsRow w.heap.size 102 1 (.slice (some ⟨w.heap.size, 0, none⟩) n n) n (u32s ((o ++ [z]) ++ List.replicate (n - (k + 1)) 0)) ∧ Below w.heap.size w wx := fun wx hwx => by
        subst hwx
        refine ⟨?_, hbel.setCell (Nat.le_refl _) _⟩
        have := row_store hown (k := k) z
        rw [show n - k = (n - (k + 1)) + 1 by omega, List.replicate_succ, set_mid hlen.out] at this
        exact this
      have Fin := hid fin; clear fin
      go_wp2_with fail
      refine (at_any a ha k x Hga.out _ _ _ _ hA1).mono ?_; rintro e w1 ⟨rfl, rfl⟩
      go_wp2_with fail
      refine (at_any b hb k y Hgb.out _ _ _ _ hB1).mono ?_; rintro e w1 ⟨rfl, rfl⟩
      by_cases hyc : y + c ≤ x
      · have hz' : (x : Int) - y - c = z := by rw [if_pos hyc] at hz; omega
        have hc0 : c' = 0 := by rw [if_pos hyc] at hc'; exact hc'
        subst hc0
        clear hz hc'
        have hz2 : (z : Int) / 9223372036854775808 = 0 := by omega
        go_wp2_with fail
        go_roundw
        case rel => exact ⟨k + 1, 0, o ++ [z], by omega, by go_num, rfl, by omega, hid (by rw [List.length_append, hlen.out]; rfl), lim_append.2 ⟨hlo, lim_cons.2 ⟨hzl, lim_nil⟩⟩, hid (Hst.out 0 z hcz.out), Fin.out _ rfl⟩
        case measure => simp [intOf]; omega
      · have hzz : z + y + c = x + 4294967296 := by rw [if_neg hyc] at hz; omega
        have hc0 : c' = 1 := by rw [if_neg hyc] at hc'; exact hc'
        subst hc0
        clear hz hc'
        by_cases hyx : y ≤ x
        · obtain ⟨d, hd⟩ : ∃ d : Nat, d = z + 18446744069414584320 := ⟨_, rfl⟩
          have hw : IntKind.u64.wrap ((x : Int) - y - c) = d := by rw [wrapU]; omega
          have hm : (d : Int) % 4294967296 = z := by omega
          have hs : (d : Int) / 9223372036854775808 = 1 := by omega
          clear hd hzz
          go_wp2_with fail
          go_roundw
          case rel => exact ⟨k + 1, 1, o ++ [z], by omega, by go_num, rfl, by omega, hid (by rw [List.length_append, hlen.out]; rfl), lim_append.2 ⟨hlo, lim_cons.2 ⟨hzl, lim_nil⟩⟩, hid (Hst.out 1 z hcz.out), Fin.out _ rfl⟩
          case measure => simp [intOf]; omega
        · obtain ⟨d, hd⟩ : ∃ d : Nat, d = x + 18446744073709551616 - y := ⟨_, rfl⟩
          have hw : IntKind.u64.wrap ((x : Int) - y) = d := by rw [wrapU]; omega
          have hm : ((d : Int) - c) % 4294967296 = z := by omega
          have hs : ((d : Int) - c) / 9223372036854775808 = 1 := by omega
          have hd1 : 1 ≤ d := by omega
          have hd2 : d ≤ 18446744073709551615 := by omega
          clear hd hzz
          go_wp2_with fail
          go_roundw
          case rel => exact ⟨k + 1, 1, o ++ [z], by omega, by go_num, rfl, by omega, hid (by rw [List.length_append, hlen.out]; rfl), lim_append.2 ⟨hlo, lim_cons.2 ⟨hzl, lim_nil⟩⟩, hid (Hst.out 1 z hcz.out), Fin.out _ rfl⟩
          case measure => simp [intOf]; omega
    · obtain rfl : k = n := by omega
      have hres : Hid (val o = val a - val b) := hid (by
        have h1 := hval.out
        have h2 : val a < 4294967296 ^ k := Nat.lt_of_lt_of_le (val_lt ha) (Nat.pow_le_pow_right (by decide) (by rw [hla.out]; omega))
        rw [Nat.mod_eq_of_lt h2, Nat.mod_eq_of_lt (by omega)] at h1
        have h3 := val_lt hlo
        rw [hlen.out] at h3
        by_cases hc1 : c = 0
        · subst hc1; omega
        · obtain rfl : c = 1 := by omega
          omega)
      have hown : wr.ownsRow w.heap.size 102 1 (.slice (some ⟨w.heap.size, 0, none⟩) k k) k (u32s o) := by simpa using hown
      obtain ⟨oo, ocap, hv, osl⟩ := ownsSl hown
      injection hv with e1 e2 e3
      subst e1 e3
      go_wp2_with fail
      refine (clean_any o _ _ _ _ osl).mono ?_; rintro e w2 ⟨⟨k', rfl, hk', hs'⟩, rfl⟩
      have Hs' := hid hs'; clear hs'
      go_wp2_with fail
      go_ret
      exact NumOut.ofOwn hown hlo hres.out hk' Hs'.out hbel

end Go.Proofs.YtgohfieleckmgaaGreatDoor

/-
  The contract of limbs.times. No condition but sizes.
-/
namespace Go.Proofs.YtgohfieleckmgaaGreatDoor
open Go.RowKit

theorem val_set {o : List Nat} : ∀ {k z t : Nat}, o[k]? = some t → val (o.set k z) + 4294967296 ^ k * t = val o + 4294967296 ^ k * z := by
  induction o with
  | nil => intro k z t h; simp at h
  | cons y o ih =>
    intro k z t h
    cases k with
    | zero => simp at h; subst h; simp [val]; omega
    | succ k =>
      simp only [List.getElem?_cons_succ] at h
      have := ih (z := z) h
      simp only [List.set_cons_succ, val, Nat.pow_succ]
      have h1 : 4294967296 ^ k * 4294967296 * t = 4294967296 * (4294967296 ^ k * t) := by rw [Nat.mul_comm (4294967296 ^ k), Nat.mul_assoc]
      have h2 : 4294967296 ^ k * 4294967296 * z = 4294967296 * (4294967296 ^ k * z) := by rw [Nat.mul_comm (4294967296 ^ k), Nat.mul_assoc]
      omega

theorem lim_set {o : List Nat} (h : Lim o) {k z : Nat} (hz : z < 4294967296) : Lim (o.set k z) := by
  intro x hx
  rcases List.mem_or_eq_of_mem_set hx with h1 | h1
  · exact h x h1
  · subst h1; exact hz

/-- One round of the inner loop of times. -/
theorem times_step {a b i j c t x y : Nat} {o : List Nat} (ht : o[i + j]? = some t) (h : val o + 4294967296 ^ (i + j) * c = (a % 4294967296 ^ i) * b + 4294967296 ^ i * x * (b % 4294967296 ^ j)) (hy : y = b / 4294967296 ^ j % 4294967296) :
    val (o.set (i + j) ((c + (t + x * y)) % 4294967296)) + 4294967296 ^ (i + (j + 1)) * ((c + (t + x * y)) / 4294967296) = (a % 4294967296 ^ i) * b + 4294967296 ^ i * x * (b % 4294967296 ^ (j + 1)) := by
  have h1 := val_set (z := (c + (t + x * y)) % 4294967296) ht
  have hp : 4294967296 ^ (i + (j + 1)) = 4294967296 ^ (i + j) * 4294967296 := by rw [← Nat.add_assoc, Nat.pow_succ]
  rw [mod_step b j, ← hy, Nat.mul_add (4294967296 ^ i * x), hp]
  have h2 := Nat.mod_add_div (c + (t + x * y)) 4294967296
  generalize (c + (t + x * y)) % 4294967296 = r at *
  generalize (c + (t + x * y)) / 4294967296 = q at *
  have h3 : 4294967296 ^ (i + j) * (r + 4294967296 * q) = 4294967296 ^ (i + j) * (c + (t + x * y)) := by rw [h2]
  have h4 : 4294967296 ^ i * x * (4294967296 ^ j * y) = 4294967296 ^ (i + j) * (x * y) := by
    rw [Nat.pow_add, Nat.mul_assoc, Nat.mul_assoc, Nat.mul_left_comm x]
  rw [h4]
  generalize 4294967296 ^ (i + j) = p at *
  simp only [Nat.mul_add, ← Nat.mul_assoc] at h3 ⊢
  simp only [Nat.mul_assoc p x y] at h3 ⊢
  omega

/-- The inner loop stays within the row. -/
theorem times_room {a b i j c m : Nat} {o : List Nat} (h : val o + 4294967296 ^ (i + j) * c = (a % 4294967296 ^ i) * b + 4294967296 ^ i * (a / 4294967296 ^ i % 4294967296) * (b % 4294967296 ^ j)) (hb : b < 4294967296 ^ m) (hc : 1 ≤ c) : j ≤ m := by
  have h1 : (a % 4294967296 ^ i) * b + 4294967296 ^ i * (a / 4294967296 ^ i % 4294967296) * (b % 4294967296 ^ j) ≤ (a % 4294967296 ^ (i + 1)) * b := by
    rw [mod_step a i, Nat.add_mul]
    exact Nat.add_le_add_left (Nat.mul_le_mul_left _ (Nat.mod_le _ _)) _
  have h2 : (a % 4294967296 ^ (i + 1)) * b < 4294967296 ^ (i + 1) * 4294967296 ^ m := Nat.mul_lt_mul'' (Nat.mod_lt _ (Nat.pow_pos (by decide))) hb
  have h3 : 4294967296 ^ (i + j) ≤ 4294967296 ^ (i + j) * c := Nat.le_mul_of_pos_right _ hc
  rw [← Nat.pow_add] at h2
  have h4 : 4294967296 ^ (i + j) < 4294967296 ^ (i + 1 + m) := by omega
  have := (Nat.pow_lt_pow_iff_right (show 1 < 4294967296 by decide)).1 h4
  omega

theorem times_end {a b i j c : Nat} {o : List Nat} (h : val o + 4294967296 ^ (i + j) * c = (a % 4294967296 ^ i) * b + 4294967296 ^ i * (a / 4294967296 ^ i % 4294967296) * (b % 4294967296 ^ j)) (hb : b < 4294967296 ^ j) (hc : c = 0) : val o = (a % 4294967296 ^ (i + 1)) * b := by
  subst hc
  rw [Nat.mod_eq_of_lt hb] at h
  rw [mod_step a i, Nat.add_mul]
  omega

end Go.Proofs.YtgohfieleckmgaaGreatDoor

/-
  The contract of limbs.times. No condition but sizes.
-/
namespace Go.Proofs.YtgohfieleckmgaaGreatDoor
open Go.RowKit

theorem row_at {w : World} {base : Nat} {e : TypeId} {g n k : Nat} {o : List Nat} (h : w.ownsRow base e 1 (.slice (some ⟨g, 0, none⟩) n n) n (u32s o)) (hk : k < n) :
    ∃ t, o[k]? = some t ∧ w.cell? ⟨g, k, none⟩ = some (.int .u32 (t : Int)) ∧ w.frozen? ⟨g, k, none⟩ = false := by
  have hl : o.length = n := by have := h.1; simpa [u32s] using this
  refine ⟨o[k], by simp, ?_, h.frozenAt k⟩
  rw [h.cellAt k (by omega)]
  simp [u32s]
  exact ⟨_, List.getElem?_eq_getElem (by omega), rfl⟩

set_option maxHeartbeats 2000000 in
theorem times_any (a b : List Nat) (ha : Lim a) (hb : Lim b) (ao bo : Option Addr) (n m cap cap' : Nat) (w : World) (hA : Sl w ao n cap (u32s a)) (hB : Sl w bo m cap' (u32s b)) (hn : n ≤ 1099511627776) (hm : m ≤ 1099511627776) :
    Calls Tryz.prog 101 #[.slice ao n cap, .slice bo m cap'] w (NumOut w (val a * val b)) := by
  have hla := hid hA.lenU
  have hlb := hid hB.lenU
  have ha' := hid (limb_at ha)
  have hb' := hid (limb_at hb)
  have hvb : Hid (val b < 4294967296 ^ m) := hid (by have := val_lt hb; rwa [hlb.out] at this)
  obtain ⟨N, hN1, hN2⟩ : ∃ N, n + m ≤ N ∧ N ≤ n + m := ⟨n + m, Nat.le_refl _, Nat.le_refl _⟩
  go_enter Tryz.func101, Tryz.ntmps101
  go_wp2_with (at_make; go_loud (refine wp_make rfl (.tmp 13) (.tmp 13) 108 rfl 102 _ 4 Tryz.underlying108 Tryz.infoU32 rfl _ _ _ _ N rfl rfl (by omega) (by omega) (by omega) (by omega) ?_))
  intro w1 hown _ hb1
  go_wp2_with fail
  go_loopw [17] (fun i wr => ∃ (k : Nat) (o : List Nat), k ≤ n ∧ i = .int .i64 k ∧ Lim o ∧ Hid (val o = val a % 4294967296 ^ k * val b) ∧
      wr.ownsRow w.heap.size 102 1 (.slice (some ⟨w.heap.size, 0, none⟩) N N) N (u32s o) ∧ Below w.heap.size w wr) (fun i _ => n - (intOf i).toNat)
  case atStart => exact ⟨0, List.replicate N 0, by omega, rfl, fun x hx => by rw [(List.mem_replicate.1 hx).2]; decide, hid (by
    have : ∀ j, val (List.replicate j 0) = 0 := fun j => by induction j with | zero => rfl | succ j ih => simp [List.replicate_succ, val, ih]
    rw [this]; simp [Nat.mod_one]), by simpa [u32s] using hown, hb1⟩
  case round =>
    clear hown hb1
    obtain ⟨k, o, hk, rfl, hlo, hval, hown, hbel⟩ := hrel
    by_cases hlt : k < n
    · go_wp2_with fail
      obtain ⟨wo, hwo⟩ : ∃ wo : World, wo = wr := ⟨_, rfl⟩
      subst hwo
      go_loopw [7, 8] (fun s j wr => ∃ (l c : Nat) (o : List Nat), l ≤ m + 1 ∧ j = .int .i64 l ∧ s = .int .u64 c ∧ c < 4294967296 ∧ Lim o ∧
          Hid (val o + 4294967296 ^ (k + l) * c = (val a % 4294967296 ^ k) * val b + 4294967296 ^ k * (val a / 4294967296 ^ k % 4294967296) * (val b % 4294967296 ^ l)) ∧
          wr.ownsRow w.heap.size 102 1 (.slice (some ⟨w.heap.size, 0, none⟩) N N) N (u32s o) ∧ Below w.heap.size w wr) (fun _ j _ => m + 1 - (intOf j).toNat)
      case atStart => exact ⟨0, 0, o, by omega, rfl, rfl, by omega, hlo, hid (by rw [hval.out]; simp [Nat.mod_one]), hown, hbel⟩
      case round =>
        clear hown hbel hlo hval
        obtain ⟨l, c, o', hl, rfl, rfl, hc, hlo, hval, hown, hbel⟩ := hrel
        by_cases hgo : l < m ∨ 1 ≤ c
        · have hlm : l ≤ m := by
            rcases hgo with h1 | h1
            · omega
            · exact times_room hval.out hvb.out h1
          have hA1 := hA.next hbel
          have hB1 := hB.next hbel
          obtain ⟨t, ht, hcell, hfr⟩ := row_at hown (show k + l < N by omega)
          have htl := hlo t (List.mem_of_getElem? ht)
          have hx : val a / 4294967296 ^ k % 4294967296 < 4294967296 := Nat.mod_lt _ (by decide)
          have hy : val b / 4294967296 ^ l % 4294967296 < 4294967296 := Nat.mod_lt _ (by decide)
          have hst := times_step ht hval.out rfl
          have hga := ha'.out k
          have hgb := hb'.out l
          generalize val a / 4294967296 ^ k % 4294967296 = x at *
          generalize val b / 4294967296 ^ l % 4294967296 = y at *
          obtain ⟨p, hp⟩ : ∃ p, x * y = p := ⟨_, rfl⟩
          have hpb : p ≤ 18446744065119617025 := by
            rw [← hp]; exact Nat.le_trans (Nat.mul_le_mul (show x ≤ 4294967295 by omega) (show y ≤ 4294967295 by omega)) (by decide)
          have hpi : (x : Int) * (y : Int) = (p : Int) := by rw [← hp]; rfl
          rw [hp] at hst
          have Hst := hid hst; have Hga := hid hga; have Hgb := hid hgb; have Hp := hid hp
          clear hst hga hgb hp ht
          have hgo2 : l < m ∨ (m ≤ l ∧ 1 ≤ c) := by omega
          clear hgo
          have fin : ∀ (nq : Nat), ((wr.drewN nq).setCell ⟨w.heap.size, k + l, none⟩ (.int .u32 (((c : Int) + ((t : Int) + (p : Int))) % 4294967296))).ownsRow w.heap.size 102 1 (.slice (some ⟨w.heap.size, 0, none⟩) N N) N (u32s (o'.set (k + l) ((c + (t + p)) % 4294967296))) ∧
              Below w.heap.size w ((wr.drewN nq).setCell ⟨w.heap.size, k + l, none⟩ (.int .u32 (((c : Int) + ((t : Int) + (p : Int))) % 4294967296))) := fun nq => by
            refine ⟨?_, (below_drewN hbel nq).setCell (Nat.le_refl _) _⟩
            have h1 : (wr.drewN nq).ownsRow w.heap.size 102 1 (.slice (some ⟨w.heap.size, 0, none⟩) N N) N (u32s o') := hown
            have := row_store h1 (k := k + l) ((c + (t + p)) % 4294967296)
            rwa [show (((c + (t + p)) % 4294967296 : Nat) : Int) = ((c : Int) + ((t : Int) + (p : Int))) % 4294967296 by simp] at this
          have Fin := hid fin; clear fin
          rcases hgo2 with hkk | ⟨hkk, hc2⟩
          all_goals
            go_wp2_with fail
            go_quiet ((first | (go_at_call_of 132 (Value.int .i64 (k : Int)); exact quiet_eq (at_any a ha k x Hga.out _ _ _ _ (hA1.drewN _))) | (go_at_call_of 132 (Value.int .i64 (l : Int)); exact quiet_eq (at_any b hb l y Hgb.out _ _ _ _ (hB1.drewN _)))))
            go_wp2_with fail
            go_roundw
            case rel => exact ⟨l + 1, (c + (t + p)) / 4294967296, o'.set (k + l) ((c + (t + p)) % 4294967296), by omega, by go_num, by simp, by omega, lim_set hlo (Nat.mod_lt _ (by decide)), Hst, (Fin.out _).1, (Fin.out _).2⟩
            case measure => simp [intOf]; omega
        · have hml : m ≤ l := by omega
          have hc0 : c = 0 := by omega
          have hend := hid (times_end hval.out (Nat.lt_of_lt_of_le hvb.out (Nat.pow_le_pow_right (by decide) hml)) hc0)
          subst hc0
          clear hgo
          go_wp2_with fail
          go_roundw
          case rel => exact ⟨k + 1, o', by omega, by go_num, hlo, hend, hown, hbel⟩
          case measure => simp [intOf]; omega
    · obtain rfl : k = n := by omega
      have hres : Hid (val o = val a * val b) := hid (by
        have h1 := hval.out
        rwa [Nat.mod_eq_of_lt (Nat.lt_of_lt_of_le (val_lt ha) (Nat.pow_le_pow_right (by decide) (by rw [hla.out]; omega)))] at h1)
      obtain ⟨oo, ocap, hv, osl⟩ := ownsSl hown
      injection hv with e1 e2 e3
      subst e1 e3
      go_wp2_with fail
      refine (clean_any o _ _ _ _ osl).mono ?_; rintro e w2 ⟨⟨k', rfl, hk', hs'⟩, rfl⟩
      have Hs' := hid hs'; clear hs'
      go_wp2_with fail
      go_ret
      exact NumOut.ofOwn hown hlo hres.out hk' Hs'.out hbel

end Go.Proofs.YtgohfieleckmgaaGreatDoor

/-
  Contracts: limbs.small, length, left, right. No condition but sizes.
-/
namespace Go.Proofs.YtgohfieleckmgaaGreatDoor
open Go.RowKit

theorem or_shl (r x : Nat) (hr : r < 4294967296) (hx : x < 4294967296) : bits .or .u64 ((r : Int) * 4294967296) (x : Int) = (r : Int) * 4294967296 + x :=
  bits_join .u64 64 (by decide) (fun n h1 h2 => by rw [wrapU]; have : (2 : Int) ^ 64 = 18446744073709551616 := by decide
                                                   omega) 32 _ _ (by omega) (by have : (2 : Int) ^ 32 = 4294967296 := by decide
                                                                                omega) (by have : (2 : Int) ^ 64 = 18446744073709551616 := by decide
                                                                                           omega) (by omega) (by have : (2 : Int) ^ 32 = 4294967296 := by decide
                                                                                                                 omega) (by have : (2 : Int) ^ 64 = 18446744073709551616 := by decide
                                                                                                                            omega)

theorem small_step {a j d r x : Nat} {hi : List Nat} (hd : 0 < d) (hh : val hi = a / 4294967296 ^ (j + 1) / d) (hr : r = a / 4294967296 ^ (j + 1) % d) (hx : x = a / 4294967296 ^ j % 4294967296) :
    val ((r * 4294967296 + x) / d :: hi) = a / 4294967296 ^ j / d ∧ (r * 4294967296 + x) % d = a / 4294967296 ^ j % d := by
  have h1 := div_step a j
  rw [← hx] at h1
  generalize a / 4294967296 ^ (j + 1) = H at *
  rw [h1, val, hh]
  have h2 := Nat.div_add_mod H d
  rw [← hr] at h2
  have h3 : x + 4294967296 * H = (r * 4294967296 + x) + d * (4294967296 * (H / d)) := by
    rw [Nat.mul_left_comm]; omega
  rw [h3, Nat.add_mul_div_left _ _ hd, Nat.add_mul_mod_self_left]
  exact ⟨rfl, rfl⟩

/-- A number and a limb. -/
def SmallOut (w : World) (q r : Nat) (e : Ending) (w' : World) : Prop :=
  ∃ ao k cap, e = .returned (.tuple #[.slice ao k cap, .int .u32 (r : Int)]) ∧ Sl w' ao k cap (u32s (dig q)) ∧ (ao = none → cap = 0) ∧ Below w.heap.size w w'

theorem SmallOut.of {w w' : World} {q r : Nat} {ao : Option Addr} {k cap : Nat} (h : NumOut w q (.returned (.slice ao k cap)) w') : SmallOut w q r (.returned (.tuple #[.slice ao k cap, .int .u32 (r : Int)])) w' := by
  obtain ⟨ao', k', cap', he, h1, h2, h3, _⟩ := h
  injection he with he
  injection he with e1 e2 e3
  subst e1 e2 e3
  exact ⟨_, _, _, rfl, h1, h2, h3⟩

set_option maxHeartbeats 1000000 in
theorem small_any (a : List Nat) (ha : Lim a) (d : Nat) (hd : 0 < d) (hd' : d < 4294967296) (ao : Option Addr) (n cap : Nat) (w : World) (hA : Sl w ao n cap (u32s a)) (hn : n ≤ 1099511627776) :
    Calls Tryz.prog 162 #[.slice ao n cap, .int .u32 (d : Int)] w (SmallOut w (val a / d) (val a % d)) := by
  have hla := hid hA.lenU
  have ha' := hid (limb_at ha)
  go_enter Tryz.func162, Tryz.ntmps162
  go_wp2_with (at_make; go_loud (refine wp_make rfl (.tmp 10) (.tmp 10) 108 rfl 102 _ 4 Tryz.underlying108 Tryz.infoU32 rfl _ _ _ _ n rfl rfl rfl rfl (by omega) (by omega) ?_))
  intro w1 hown _ hb1
  go_wp2_with fail
  go_loopw [7, 8] (fun s i wr => ∃ (k r : Nat) (o : List Nat), k ≤ n ∧ i = .int .i64 ((k : Int) - 1) ∧ s = .int .u64 r ∧ r < d ∧ Lim o ∧ Hid (val o = val a / 4294967296 ^ k / d) ∧ Hid (r = val a / 4294967296 ^ k % d) ∧
      wr.ownsRow w.heap.size 102 1 (.slice (some ⟨w.heap.size, 0, none⟩) n n) n (u32s (List.replicate k 0 ++ o)) ∧ Hid (o.length + k = n) ∧ Below w.heap.size w wr) (fun _ i _ => (intOf i + 1).toNat)
  case atStart => 
    have h0 : val a / 4294967296 ^ n = 0 := Nat.div_eq_of_lt (by have := val_lt ha; rwa [hla.out] at this)
    exact ⟨n, 0, [], Nat.le_refl _, rfl, rfl, hd, lim_nil, hid (by rw [h0]; simp [val]), hid (by rw [h0]; simp), by simpa [u32s] using hown, hid (by simp), hb1⟩
  case round =>
    clear hown hb1
    obtain ⟨k, r, o, hk, rfl, rfl, hr, hlo, hval, hrem, hown, hlen, hbel⟩ := hrel
    cases k with
    | zero =>
      have hres : Hid (val o = val a / d) := hid (by have := hval.out; simpa using this)
      have hrr : Hid (r = val a % d) := hid (by have := hrem.out; simpa using this)
      have hown : wr.ownsRow w.heap.size 102 1 (.slice (some ⟨w.heap.size, 0, none⟩) n n) n (u32s o) := by simpa using hown
      obtain ⟨oo, ocap, hv, osl⟩ := ownsSl hown
      injection hv with e1 e2 e3
      subst e1 e3
      have hr32 : r < 4294967296 := by omega
      go_wp2_with fail
      refine (clean_any o _ _ _ _ osl).mono ?_; rintro e w2 ⟨⟨k', rfl, hk', hs'⟩, rfl⟩
      have Hs' := hid hs'; clear hs'
      go_wp2_with fail
      go_ret2
      have := SmallOut.of (r := r) (NumOut.ofOwn hown hlo hres.out hk' Hs'.out hbel)
      rw [hrr.out] at this ⊢
      exact this
    | succ j =>
      have hj : ((j + 1 : Nat) : Int) - 1 = j := by omega
      rw [hj]
      clear hj
      have hA1 := hA.next hbel
      obtain ⟨x, hx', b, off, rfl, hcell⟩ := hA1.u32 (show j < n by omega)
      have hxl := ha x (List.mem_of_getElem? hx')
      have hxe : x = val a / 4294967296 ^ j % 4294967296 := by rw [← ha'.out j, List.getD, hx']; rfl
      obtain ⟨t, ht, hcell', hfr⟩ := row_at hown (show j < n by omega)
      have hst := hid (small_step hd hval.out hrem.out hxe)
      clear hx' hxe ht
      have hor := or_shl r x (by omega) hxl
      have hq : (r * 4294967296 + x) / d < 4294967296 := by
        rw [Nat.div_lt_iff_lt_mul hd]
        have : r * 4294967296 + 4294967296 ≤ d * 4294967296 := by
          have := Nat.mul_le_mul_right 4294967296 (show r + 1 ≤ d by omega)
          omega
        omega
      have fin : (wr.setCell ⟨w.heap.size, j, none⟩ (.int .u32 (((r : Int) * 4294967296 + (x : Int)) / (d : Int) % 4294967296))).ownsRow w.heap.size 102 1 (.slice (some ⟨w.heap.size, 0, none⟩) n n) n (u32s (List.replicate j 0 ++ ((r * 4294967296 + x) / d :: o))) ∧
          Below w.heap.size w (wr.setCell ⟨w.heap.size, j, none⟩ (.int .u32 (((r : Int) * 4294967296 + (x : Int)) / (d : Int) % 4294967296))) := by
        refine ⟨?_, hbel.setCell (Nat.le_refl _) _⟩
        have := row_store hown (k := j) ((r * 4294967296 + x) / d)
        rw [List.replicate_succ', List.append_assoc, List.singleton_append, set_mid (by simp), List.append_assoc, List.singleton_append] at this
        rwa [show (((r : Int) * 4294967296 + (x : Int)) / (d : Int) % 4294967296) = (((r * 4294967296 + x) / d : Nat) : Int) by
          have e : (((r * 4294967296 + x) / d : Nat) : Int) = ((r : Int) * 4294967296 + (x : Int)) / (d : Int) := by simp
          rw [← e]; exact (fun (q : Nat) (h : q < 4294967296) => (by omega : (q : Int) % 4294967296 = q)) _ hq]
      have Fin := hid fin; clear fin
      have hlen2 : Hid (((r * 4294967296 + x) / d :: o).length + j = n) := hid (by have := hlen.out; simp only [List.length_cons]; omega)
      have hrd : (r * 4294967296 + x) % d < d := Nat.mod_lt _ hd
      go_wp2_with fail
      go_roundw
      case rel => exact ⟨j, (r * 4294967296 + x) % d, (r * 4294967296 + x) / d :: o, by omega, rfl, by simp, hrd, lim_cons.2 ⟨hq, hlo⟩, hst.out.1, hst.out.2, Fin.out.1, hlen2, Fin.out.2⟩
      case measure => simp [intOf]

end Go.Proofs.YtgohfieleckmgaaGreatDoor
