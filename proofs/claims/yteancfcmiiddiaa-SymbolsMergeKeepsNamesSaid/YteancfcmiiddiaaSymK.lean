/-
  The walks of SymbolsName, SymbolsFindNames, SymbolsMergeKeepsNames. No condition but sizes.
-/
import Derived.Test.YteancfcmiiddiaaSymJ
namespace Go.Proofs.Yteancfcmiiddiaa
open Go.RowKit

set_option maxHeartbeats 400000 in
theorem walkName (w : World) (T : List ByteArray) (ao : Option Addr) (n cap : Nat) (h : Sl w ao n cap (T.map .string)) (_hc : ao = none → cap = 0) (s : ByteArray) (hs : s.size ≤ maxLen) (k : Int) (_hk : (Lit.int .i64 k).wf = true) :
    Calls Try.prog 5 #[.slice ao n cap, .string s, .int .i64 k] w fun e w' => e = .returned (.bool true) ∧ Below w.heap.size w w' := by
  unfold maxLen at hs
  go_enter Try.func5, Try.ntmps5
  go_wp2_with fail
  refine (Strings_any T _ _ _ _ h).mono ?_; rintro e w1 ⟨rfl, rfl⟩
  cases hT : fewStrings T with
  | false =>
    go_wp2_with fail
    refine (awake_any _).mono ?_; rintro e w1 ⟨rfl, hb⟩
    go_wp2_with fail
    go_ret
    exact ⟨rfl, hb⟩
  | true =>
    have hsz := few_sizes hT
    have hsz := hid hsz
    by_cases h40 : 40 < s.size
    · go_wp2_with fail
      refine (awake_any _).mono ?_; rintro e w1 ⟨rfl, hb⟩
      go_wp2_with fail
      go_ret
      exact ⟨rfl, hb⟩
    · go_wp2_with fail
      refine (awake_any _).mono ?_; rintro e w1 ⟨rfl, hb1⟩
      go_wp2_with fail
      refine (Valid_any T _ _ _ _ (h.next hb1)).mono ?_; rintro e w2 ⟨rfl, hb2⟩
      have hb2 : Below w.heap.size w w2 := hb1.trans (hb2.mono hb1.size)
      go_wp2_with fail
      refine (rValid_any T _ _ _ _ (h.next hb2) hsz.out).mono ?_; rintro e w3 ⟨rfl, hb3⟩
      have hb3 : Below w.heap.size w w3 := hb2.trans (hb3.mono hb2.size)
      go_wp2_with fail
      refine (Find_any T _ _ _ _ _ (h.next hb3)).mono ?_; rintro e w4 ⟨rfl, hb4⟩
      have hb4 : Below w.heap.size w w4 := hb3.trans (hb4.mono hb3.size)
      go_wp2_with fail
      refine (rFind_any T _ _ _ _ _ (h.next hb4) hsz.out).mono ?_; rintro e w5 ⟨rfl, hb5⟩
      have hb5 : Below w.heap.size w w5 := hb4.trans (hb5.mono hb4.size)
      go_wp2_with fail
      refine (Name_any T _ _ _ _ _ (h.next hb5)).mono ?_; rintro e w6 ⟨rfl, hb6⟩
      have hb6 : Below w.heap.size w w6 := hb5.trans (hb6.mono hb5.size)
      go_wp2_with fail
      refine (rName_any T _ _ _ _ _ (h.next hb6) hsz.out).mono ?_; rintro e w7 ⟨rfl, hb7⟩
      have hb7 : Below w.heap.size w w7 := hb6.trans (hb7.mono hb6.size)
      go_wp2_with fail
      go_ret
      exact ⟨rfl, hb7⟩

theorem ok_at {T : List ByteArray} {j : Nat} {x : ByteArray} (h : okUpto T T.length = true) (hx : T[j]? = some x) : findN (T.take j) x = 0 := by
  have hj := (List.getElem?_eq_some_iff.1 hx).1
  simp only [okUpto, List.all_eq_true] at h
  have := h j (List.mem_range.2 hj)
  rw [hx] at this
  simp only [Bool.and_eq_true, decide_eq_true_eq] at this
  exact this.2

theorem findN_zero {l : List ByteArray} {s : ByteArray} (h : findN l s = 0) : l.all (fun x => !(x.toList == s.toList)) = true := by
  have hp : place l s = l.length := by
    have := place_le l s
    unfold findN at h
    split at h <;> omega
  unfold place at hp
  rw [List.findIdx_eq_length] at hp
  rw [List.all_eq_true]
  intro y hy; rw [hp y hy]; rfl

theorem find_at {T : List ByteArray} {j : Nat} {x : ByteArray} (h : okUpto T T.length = true) (hx : T[j]? = some x) : findN T x = j + 1 := by
  have hj := (List.getElem?_eq_some_iff.1 hx).1
  have := place_some hx (findN_zero (ok_at h hx)) (by simp)
  unfold findN; rw [this, if_pos hj]

theorem valid_ok {T : List ByteArray} (h : valid T = true) : okUpto T T.length = true := by
  simp only [valid, Bool.and_eq_true] at h; exact h.2

theorem nameS_at {T : List ByteArray} {j : Nat} {x : ByteArray} (hv : valid T = true) (hx : T[j]? = some x) : nameS T ((j : Int) + 1) = x := by
  have hj := (List.getElem?_eq_some_iff.1 hx).1
  rw [nameS, if_pos ⟨hv, by omega, by omega⟩, if_neg (by omega), show ((j : Int) + 1).toNat - 1 = j by omega, List.getD, hx]; rfl

theorem find_name {T : List ByteArray} (hv : valid T = true) {k : Int} (h1 : 1 ≤ k) (h2 : k ≤ T.length) : (findS T (nameS T k) : Int) = k := by
  obtain ⟨j, rfl⟩ : ∃ j : Nat, k = j + 1 := ⟨(k - 1).toNat, by omega⟩
  have hj : j < T.length := by omega
  rw [nameS_at hv (List.getElem?_eq_getElem hj), findS, if_pos hv, find_at (valid_ok hv) (List.getElem?_eq_getElem hj)]
  omega

theorem name_find {T : List ByteArray} {s : ByteArray} (h : findS T s ≠ 0) : nameS T (findS T s) = s := by
  have hv : valid T = true := by
    unfold findS at h; split at h
    · assumption
    · exact absurd rfl h
  rw [findS, if_pos hv] at h ⊢
  have hp : place T s < T.length := by unfold findN at h; split at h; assumption; exact absurd rfl h
  have hf : findN T s = place T s + 1 := by unfold findN; rw [if_pos hp]
  rw [hf]
  have hx := List.getElem?_eq_getElem hp
  have := nameS_at hv hx
  rw [show ((place T s + 1 : Nat) : Int) = (place T s : Int) + 1 by omega, this]
  have hb := List.findIdx_getElem (w := hp)
  exact of_decide_eq_true (beq_strs ▸ hb)

theorem name_zero {T : List ByteArray} (hv : valid T = true) : nameS T 0 = ⟨#[45]⟩ := by
  rw [nameS, if_pos ⟨hv, by omega, by omega⟩, if_pos rfl]

theorem valid_len1 {T : List ByteArray} (h : valid T = true) : 1 ≤ T.length := by
  simp only [valid, Bool.and_eq_true, decide_eq_true_eq] at h; omega

set_option maxHeartbeats 1000000 in
theorem walkFindNames (w : World) (T : List ByteArray) (ao : Option Addr) (n cap : Nat) (h : Sl w ao n cap (T.map .string)) (_hc : ao = none → cap = 0) (s : ByteArray) (hs : s.size ≤ maxLen) (k : Int) (hk : (Lit.int .i64 k).wf = true) :
    Calls Try.prog 6 #[.slice ao n cap, .string s, .int .i64 k] w fun e w' => e = .returned (.bool true) ∧ Below w.heap.size w w' := by
  unfold maxLen at hs
  have hl := hid h.lenMap
  have hk' : -9223372036854775808 ≤ k ∧ k ≤ 9223372036854775807 := by simpa [Lit.wf, IntKind.min, IntKind.max, IntKind.bits, IntKind.signed] using hk
  clear hk
  go_enter Try.func6, Try.ntmps6
  go_wp2_with fail
  refine (Strings_any T _ _ _ _ h).mono ?_; rintro e w1 ⟨rfl, rfl⟩
  cases hT : fewStrings T with
  | false =>
    go_wp2_with fail
    refine (awake_any _).mono ?_; rintro e w1 ⟨rfl, hb⟩
    go_wp2_with fail
    go_ret
    exact ⟨rfl, hb⟩
  | true =>
    have hsz := few_sizes hT
    have hsz := hid hsz
    by_cases h40 : 40 < s.size
    · go_wp2_with fail
      refine (awake_any _).mono ?_; rintro e w1 ⟨rfl, hb⟩
      go_wp2_with fail
      go_ret
      exact ⟨rfl, hb⟩
    · go_wp2_with fail
      refine (rValid_any T _ _ _ _ h hsz.out).mono ?_; rintro e w1 ⟨rfl, hb1⟩
      cases hv : valid T with
      | false =>
        go_wp2_with fail
        refine (awake_any _).mono ?_; rintro e w2 ⟨rfl, hb⟩
        go_wp2_with fail
        go_ret
        exact ⟨rfl, hb1.trans (hb.mono hb1.size)⟩
      | true =>
        have hn1 : 1 ≤ n := by rw [← hl.out]; exact valid_len1 hv
        have hn32 : n ≤ 32 := by rw [← hl.out]; exact valid_len hv
        have hv' := hid hv; clear hv
        go_wp2_with fail
        refine (Mod_any k n _ hk' (by omega) (by omega)).mono ?_; rintro e w2 ⟨rfl, rfl⟩
        have hm0 := Int.emod_nonneg k (show (n : Int) ≠ 0 by omega)
        have hm1 := Int.emod_lt_of_pos k (show 0 < (n : Int) by omega)
        generalize k % (n : Int) = r at hm0 hm1
        clear hk' h40
        go_wp2_with fail
        refine (Find_any T s _ _ _ _ (h.next hb1)).mono ?_; rintro e w3 ⟨rfl, hb3⟩
        have hb3 : Below w.heap.size w w3 := hb1.trans (hb3.mono hb1.size)
        go_wp2_with fail
        refine (awake_any _).mono ?_; rintro e w4 ⟨rfl, hb4⟩
        have hb4 : Below w.heap.size w w4 := hb3.trans (hb4.mono hb3.size)
        go_wp2_with fail
        refine (Name_any T _ _ _ _ _ (h.next hb4)).mono ?_; rintro e w5 ⟨rfl, hb5⟩
        have hb5 : Below w.heap.size w w5 := hb4.trans (hb5.mono hb4.size)
        go_wp2_with fail
        refine (Find_any T _ _ _ _ _ (h.next hb5)).mono ?_; rintro e w6 ⟨rfl, hb6⟩
        have hb6 : Below w.heap.size w w6 := hb5.trans (hb6.mono hb5.size)
        rw [find_name hv'.out (by omega) (by rw [hl.out]; omega)]
        by_cases hf : findS T s = 0
        · have hf1 : (findS T s : Int) = 0 := by omega
          go_wp2_with fail
          refine (Name_any T _ _ _ _ _ (h.next hb6)).mono ?_; rintro e w7 ⟨rfl, hb7⟩
          have hb7 : Below w.heap.size w w7 := hb6.trans (hb7.mono hb6.size)
          rw [name_zero hv'.out]
          go_wp2_with fail
          go_ret
          exact ⟨rfl, hb7⟩
        · have hf1 : 1 ≤ (findS T s : Int) := by omega
          have hnf := hid (name_find hf)
          clear hf
          go_wp2_with fail
          refine (Name_any T _ _ _ _ _ (h.next hb6)).mono ?_; rintro e w7 ⟨rfl, hb7⟩
          have hb7 : Below w.heap.size w w7 := hb6.trans (hb7.mono hb6.size)
          rw [hnf.out]
          go_wp2_with fail
          refine (Name_any T _ _ _ _ _ (h.next hb7)).mono ?_; rintro e w8 ⟨rfl, hb8⟩
          have hb8 : Below w.heap.size w w8 := hb7.trans (hb8.mono hb7.size)
          rw [name_zero hv'.out]
          go_wp2_with fail
          go_ret
          exact ⟨rfl, hb8⟩

end Go.Proofs.Yteancfcmiiddiaa
