/-
  Contracts of the small functions on names: strings.IndexByte, symbols.Named's test, slices.IndexFunc and ContainsFunc with it, weightedref04.Inner, named, Named. No condition but sizes.
-/
import Derived.Test.YtcgfglgcjpjbaaaDoorProg
import Derived.Test.YtcgfglgcjpjbaaaDoorBase
import Derived.Lib.Bytealg
namespace Go.Proofs.YtcgfglgcjpjbaaaDoor
open Go.RowKit

/-- A byte of a name. -/
def inner (c : UInt8) : Bool := decide (33 ≤ c.toNat ∧ c.toNat ≤ 126 ∧ c.toNat ≠ 35 ∧ c.toNat ≠ 40 ∧ c.toNat ≠ 41 ∧ c.toNat ≠ 42 ∧ c.toNat ≠ 43 ∧ c.toNat ≠ 124 ∧ c.toNat ≠ 45 ∧ c.toNat ≠ 91 ∧ c.toNat ≠ 93)

theorem run_164 (s : ByteArray) (c : Int) (w : World) : (callFunc 92 #[.string s, .int .u8 c]).run Tryd.prog w = .ok (.value (.int .i64 (Lib.indexByte s.data.toList c.toNat.toUInt8))) w := by
  rw [run_callFunc_extern Tryd.func92 (by kernel_rfl) (by kernel_rfl) (by kernel_rfl) (e := Extern.BytealgIndexByte.indexByte) (by kernel_rfl), Lib.run_indexByteString]
  rfl

theorem indexByte_any (s : ByteArray) (c : Int) (w : World) :
    Calls Tryd.prog 55 #[.string s, .int .u8 c] w fun e w' => e = .returned (.int .i64 (Lib.indexByte s.data.toList c.toNat.toUInt8)) ∧ w = w' := by
  have hx := run_164 s c
  go_enter Tryd.func55, Tryd.ntmps55
  go_wp2_with fail
  go_in
  go_wp2_with fail
  go_ret
  exact ⟨rfl, rfl⟩

theorem indexByte_pos : ∀ (l : List UInt8) (c : UInt8), decide (0 ≤ Lib.indexByte l c) = l.contains c
  | [], c => by simp [Lib.indexByte]
  | b :: l, c => by
    have ih := indexByte_pos l c
    have hg := Lib.indexByte_ge l c
    unfold Lib.indexByte
    rw [List.contains_cons, ← ih]
    by_cases h : b = c
    · subst h; simp
    · have h' : (b == c) = false := by simpa using h
      have h'' : (c == b) = false := by simpa using fun e => h e.symm
      rw [h', h'']
      simp only [Bool.false_eq_true, if_false, Bool.false_or]
      by_cases h1 : Lib.indexByte l c = -1
      · simp [h1]
      · have h1' : (Lib.indexByte l c == -1) = false := by simpa using h1
        rw [h1']
        simp only [Bool.false_eq_true, if_false]
        congr 1
        apply propext
        omega

theorem hash_any (c : UInt8) : List.contains [35, 40, 41, 42, 43, 124, 45, 91, 93] c = decide (c.toNat = 35 ∨ c.toNat = 40 ∨ c.toNat = 41 ∨ c.toNat = 42 ∨ c.toNat = 43 ∨ c.toNat = 124 ∨ c.toNat = 45 ∨ c.toNat = 91 ∨ c.toNat = 93) := by
  rw [Bool.eq_iff_iff]
  simp [← UInt8.toNat_inj]

/-- The test of symbols.Named: is a byte none of a name's? -/
theorem named1_any (c : UInt8) (w : World) :
    Calls Tryd.prog 54 #[.int .u8 c.toNat] w fun e w' => e = .returned (.bool (!inner c)) ∧ w = w' := by
  have hc : c.toNat < 256 := c.toNat_lt
  by_cases h1 : (c.toNat : Int) < 33
  · go_enter Tryd.func54, Tryd.ntmps54
    go_wp2_with fail
    go_ret
    exact ⟨retB (by simp [inner]; omega), rfl⟩
  · by_cases h2 : 126 < (c.toNat : Int)
    · go_enter Tryd.func54, Tryd.ntmps54
      go_wp2_with fail
      go_ret
      exact ⟨retB (by simp [inner]; omega), rfl⟩
    · go_enter Tryd.func54, Tryd.ntmps54
      go_wp2_with fail
      refine (indexByte_any _ _ _).mono ?_; rintro e w' ⟨rfl, rfl⟩
      go_wp2_with fail
      go_ret
      refine ⟨retB ?_, rfl⟩
      rw [indexByte_pos, hash_any]
      simp only [inner, ← decide_not, decide_eq_decide]
      omega


theorem all_take_snoc {α : Type} {p : α → Bool} {l : List α} {k : Nat} {x : α} (h : l[k]? = some x) (ha : (l.take k).all p = true) (hp : p x = true) : (l.take (k + 1)).all p = true := by
  rw [take_snoc h, List.all_append, ha]; simp [hp]

theorem any_of_get {α : Type} {p : α → Bool} {l : List α} {k : Nat} {x : α} (h : l[k]? = some x) (hp : p x = false) : l.all p = false := by
  rw [List.all_eq_false]
  exact ⟨x, List.mem_of_getElem? h, by simp [hp]⟩

/-- slices.IndexFunc with that test, over the bytes of a row. -/
theorem indexFunc_any (cs : List UInt8) (ao : Option Addr) (n cap : Nat) (w : World) (h : Sl w ao n cap (cs.map fun c => .int .u8 c.toNat)) :
    Calls Tryd.prog 76 #[.slice ao n cap, .func (.func 54) #[] #[]] w fun e w' =>
      (∃ r : Int, e = .returned (.int .i64 r) ∧ decide (0 ≤ r) = !cs.all inner) ∧ w = w' := by
  have hb := h.bound
  have hl := hid h.lenMap
  go_enter Tryd.func76, Tryd.ntmps76
  go_wp2_with fail
  go_loop [8] (fun i => ∃ k : Nat, k ≤ n ∧ i = .int .i64 k ∧ Hid ((cs.take k).all inner = true)) (fun i => n - (intOf i).toNat)
  case atStart => exact ⟨0, by omega, rfl, by simp [Hid]⟩
  case round =>
    obtain ⟨k, hk, rfl, hall⟩ := hrel
    by_cases hlt : k < n
    · obtain ⟨c, hc, b, off, rfl, hcell⟩ := h.get hlt
      have hc := hid hc
      go_wp2_with fail
      refine (named1_any _ _).mono ?_; rintro e w' ⟨rfl, rfl⟩
      cases hi : inner c with
      | true =>
        go_wp2_with fail
        go_round
        case rel => exact ⟨k + 1, by omega, by go_num, all_take_snoc hc.out hall.out hi⟩
        case measure => simp [intOf]; omega
      | false =>
        go_wp2_with fail
        go_ret
        exact ⟨⟨k, rfl, by rw [any_of_get hc.out hi]; simp⟩, rfl⟩
    · go_wp2_with fail
      go_ret
      refine ⟨⟨-1, rfl, ?_⟩, rfl⟩
      have := hall.out
      rw [List.take_of_length_le (by rw [hl.out]; omega)] at this
      rw [this]; rfl

theorem containsFunc_any (cs : List UInt8) (ao : Option Addr) (n cap : Nat) (w : World) (h : Sl w ao n cap (cs.map fun c => .int .u8 c.toNat)) :
    Calls Tryd.prog 53 #[.slice ao n cap, .func (.func 54) #[] #[]] w fun e w' =>
      e = .returned (.bool (!cs.all inner)) ∧ w = w' := by
  go_enter Tryd.func53, Tryd.ntmps53
  go_wp2_with fail
  refine (indexFunc_any cs _ _ _ _ h).mono ?_; rintro e w' ⟨⟨r, rfl, hr⟩, rfl⟩
  go_wp2_with fail
  go_ret
  exact ⟨rfl, rfl⟩

end Go.Proofs.YtcgfglgcjpjbaaaDoor
