/-
  The contract of rational.decimal. No condition but sizes.
-/
import Derived.Test.YtjppjhjfogjhaaaGreatDoorTxtA
namespace Go.Proofs.YtjppjhjfogjhaaaGreatDoor
open Go.RowKit Go.Lib Go.Sort
set_option linter.unusedSimpArgs false
set_option linter.unusedVariables false

theorem empty_of_size {s : ByteArray} (h : s.size = 0) : s = ⟨#[]⟩ := by
  cases s with
  | mk d => simp [ByteArray.size] at h; rw [h]

theorem head_byte {s : ByteArray} (h : 0 < s.size) {c : UInt8} (hc : s.data.toList.head? = some c) : s[0] = c := by
  have h' : 0 < s.data.toList.length := by rw [← Lib.size_eq]; exact h
  rw [List.head?_eq_getElem?, List.getElem?_eq_getElem h'] at hc
  exact Option.some.inj hc
theorem byte_head {s : ByteArray} (h : 0 < s.size) {c : UInt8} (hc : s[0] = c) : s.data.toList.head? = some c := by
  have h' : 0 < s.data.toList.length := by rw [← Lib.size_eq]; exact h
  rw [List.head?_eq_getElem?, List.getElem?_eq_getElem h']
  exact congrArg some hc

theorem decimal_any (s : ByteArray) (hs : s.size ≤ 9223372036854775807) (w : World) :
    Calls Tryz.prog 59 #[.string s] w fun e w' => e = .returned (.bool (okDec s.data.toList)) ∧ Below w.heap.size w w' := by
  have hsz := Lib.size_eq s
  by_cases h0 : s.size = 0
  · obtain rfl := empty_of_size h0
    have hr : Hid (okDec (⟨#[]⟩ : ByteArray).data.toList = false) := hid (by decide)
    clear h0 hsz hs
    go_enter Tryz.func59, Tryz.ntmps59
    go_wp2_with fail
    go_ret
    exact ⟨retB hr.out.symm, Below.refl _ _⟩
  · have h1 : 0 < s.size := by omega
    have e0 : s.toList.isEmpty = false := by
      rw [Lib.toList_data]
      cases hc : s.data.toList with
      | nil => rw [hc, List.length_nil] at hsz; omega
      | cons _ _ => rfl
    by_cases h2 : s.size ≤ 2000
    · by_cases h3 : s.data.toList = [48]
      · have hr : Hid (okDec [48] = true) := hid (by decide)
        obtain rfl : s = ⟨#[48]⟩ := by cases s with | mk d => cases d with | mk l => simp at h3; subst h3; rfl
        clear h3 h0 h1 e0 h2 hsz hs
        go_enter Tryz.func59, Tryz.ntmps59
        go_wp2_with fail
        refine (trimD_any ⟨#[48]⟩ (by decide) (by decide) _).mono ?_; rintro e w1 ⟨⟨t, rfl, ht⟩, hb⟩
        have ht : t.toList.isEmpty = true := by rw [ht]; decide
        go_wp2_with fail
        go_ret
        exact ⟨retB hr.out.symm, hb⟩
      · have e3 : (s.toList == [48]) = false := by rw [Lib.toList_data]; simpa using h3
        by_cases h4 : s.data.toList.head? = some 48
        · have hr : Hid (okDec s.data.toList = false) := hid (by unfold okDec; rw [decide_eq_false h3, decide_eq_false (not_not_intro h4)]; simp)
          have e4 : s[0] = 48 := head_byte h1 h4
          clear hsz h0 h3 h4
          go_enter Tryz.func59, Tryz.ntmps59
          go_wp2_with fail
          go_ret
          exact ⟨retB hr.out.symm, Below.refl _ _⟩
        · have hr : Hid (okDec s.data.toList = (decFrom 0 s.data.toList).isSome) := hid (by
            unfold okDec
            rw [decide_eq_true h4, decide_eq_true (show s.data.toList.length ≤ 2000 by omega)]
            rw [Lib.toList_data] at e0
            rw [e0]; simp)
          have hne : s[0] ≠ 48 := fun e => h4 (byte_head h1 e)
          have hT := trimD_any s h1 hs w
          have e4 : ((s[0].toNat : Int) == 48) = false := by
            have : s[0].toNat ≠ 48 := fun e => hne (UInt8.toNat_inj.1 e)
            simp; omega
          have e5 : ((s[0].toNat : Int) != 48) = true := by rw [bne, e4]; rfl
          have e0' : (!s.toList.isEmpty) = true := by rw [e0]; rfl
          clear hsz h0 h3 h4 hne
          go_enter Tryz.func59, Tryz.ntmps59
          go_wp2_with fail
          refine hT.mono ?_; rintro e w1 ⟨⟨t, rfl, ht⟩, hb⟩
          obtain ⟨c, hc⟩ : ∃ c, (decFrom 0 s.data.toList).isSome = c := ⟨_, rfl⟩
          rw [hc] at ht
          have HC := hid hc
          clear hc
          go_wp2_with fail
          go_ret
          refine ⟨?_, hb⟩
          rw [hr.out, HC.out]; rfl
    · have hr : Hid (okDec s.data.toList = false) := hid (by unfold okDec; rw [decide_eq_false (show ¬ s.data.toList.length ≤ 2000 by omega)]; simp)
      have h2' : decide (s.size ≤ 2000) = false := decide_eq_false h2
      clear hsz h0
      go_enter Tryz.func59, Tryz.ntmps59
      go_wp2_with fail
      go_ret
      exact ⟨retB hr.out.symm, Below.refl _ _⟩

end Go.Proofs.YtjppjhjfogjhaaaGreatDoor
