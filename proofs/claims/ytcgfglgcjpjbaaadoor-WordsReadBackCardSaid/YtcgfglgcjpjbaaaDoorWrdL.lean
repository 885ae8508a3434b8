/-
  The walks of WordsWrite and WordsReadBack. Condition: internal/bytealg.MaxLen holds a number.
-/
import Derived.Test.YtcgfglgcjpjbaaaDoorWrdK
namespace Go.Proofs.YtcgfglgcjpjbaaaDoor
open Go.RowKit
set_option linter.unusedSimpArgs false
set_option linter.unusedVariables false

theorem few_len {T : List ByteArray} (h : fewStrings T = true) : T.length ≤ 40 := by
  simp only [fewStrings, Bool.and_eq_true, decide_eq_true_eq] at h; exact h.1

theorem fmt_size (T : List ByteArray) (l : List Int) : (fmtRes T l).length ≤ 25 * l.length := by
  unfold fmtRes fmtErr
  by_cases hv : valid T = true
  · by_cases hok : okW l T.length = true
    · rw [if_pos hv, if_pos hok, if_pos rfl]
      exact fmtL_len hv (okW_in hok)
    · rw [if_pos hv, if_neg hok, if_neg (by decide)]; simp
  · rw [if_neg hv, if_neg (by decide)]; simp

theorem same_text {s t : ByteArray} {l : List UInt8} (h1 : s.data.toList = l) (h2 : t.data.toList = l) : s = t :=
  ByteArray.ext (Array.toList_inj.1 (h1.trans h2.symm))

set_option maxHeartbeats 2000000 in
theorem walkWrite (w : World) (hM : MaxL w) (T : List ByteArray) (ao : Option Addr) (n cap : Nat) (hT : Sl w ao n cap (T.map .string)) (_hz : ao = none → cap = 0)
    (l : List Int) (bo : Option Addr) (m cap' : Nat) (hL : Sl w bo m cap' (i64s l)) (_hl : (bo = none → cap' = 0) ∧ ∀ z ∈ l, -9223372036854775808 ≤ z ∧ z ≤ 9223372036854775807)
    (s : ByteArray) (hs : s.size ≤ maxLen) :
    Calls Tryd.prog 3 #[.slice ao n cap, .slice bo m cap', .string s] w fun e w' => e = .returned (.bool true) ∧ Below w.heap.size w w' := by
  have hn := hT.bound
  have hm := hL.bound
  unfold maxLen at hs
  cases h1 : fewStrings T with
  | false =>
    have H1 := hid h1; clear h1
    go_enter Tryd.func3, Tryd.ntmps3
    go_wp2_with fail
    refine (Strings_any T _ _ _ _ hT).mono ?_; rintro e w1 ⟨rfl, rfl⟩
    rw [H1.out]
    go_wp2_with fail
    refine (wawake_any _).mono ?_; rintro e w1 ⟨rfl, hb⟩
    go_wp2_with fail
    go_ret
    exact ⟨rfl, hb⟩
  | true =>
    have fT := hid (few_sizes h1)
    have H1 := hid h1; clear h1
    by_cases hm20 : 20 < m
    · go_enter Tryd.func3, Tryd.ntmps3
      go_wp2_with fail
      refine (Strings_any T _ _ _ _ hT).mono ?_; rintro e w1 ⟨rfl, rfl⟩
      rw [H1.out]
      go_wp2_with fail
      refine (wawake_any _).mono ?_; rintro e w1 ⟨rfl, hb⟩
      go_wp2_with fail
      go_ret
      exact ⟨rfl, hb⟩
    · by_cases hs200 : 200 < s.size
      · go_enter Tryd.func3, Tryd.ntmps3
        go_wp2_with fail
        refine (Strings_any T _ _ _ _ hT).mono ?_; rintro e w1 ⟨rfl, rfl⟩
        rw [H1.out]
        go_wp2_with fail
        refine (wawake_any _).mono ?_; rintro e w1 ⟨rfl, hb⟩
        go_wp2_with fail
        go_ret
        exact ⟨rfl, hb⟩
      · go_enter Tryd.func3, Tryd.ntmps3
        go_wp2_with fail
        refine (Strings_any T _ _ _ _ hT).mono ?_; rintro e w1 ⟨rfl, rfl⟩
        rw [H1.out]
        go_wp2_with fail
        refine (wFormat_any T _ _ _ l _ _ _ _ hT hL).mono ?_; rintro e w1 ⟨t1, rfl, d1, hb1⟩
        go_wp2_with fail
        refine (rwFormat_any T fT.out _ _ _ l _ _ _ _ (hT.next hb1) (hL.next hb1)).mono ?_; rintro e w2 ⟨t2, rfl, d2, hb2⟩
        obtain rfl := same_text d1 d2
        have hbel2 := below_chain hb1 hb2
        clear d1 d2
        generalize fmtErr T l = c1 at *
        go_wp2_with fail
        refine (wParse_any T _ _ _ s (by omega) _ (hT.next hbel2) (hM.next hbel2)).mono ?_; rintro e w3 ⟨xo, xn, xc, rfl, sX, _, hb3⟩
        have hbel3 := below_chain hbel2 hb3
        go_wp2_with fail
        refine (rwParse_any T fT.out _ _ _ s (by omega) _ (hT.next hbel3)).mono ?_; rintro e w4 ⟨yo, yn, yc, rfl, sY, _, hb4⟩
        have hbel4 := below_chain hbel3 hb4
        have sX := sX.next hb4
        generalize parErr T s = c2 at *
        generalize parRes T s = R at *
        have k1 : (c1 == c1) = true := by simp
        have k2 : (c2 == c2) = true := by simp
        go_wp2_with fail
        refine (wawake_any _).mono ?_; rintro e w5 ⟨rfl, hb5⟩
        have hbel5 := below_chain hbel4 hb5
        go_wp2_with fail
        refine (rwSame_any R R _ _ _ _ _ _ _ (sX.next hb5) (sY.next hb5)).mono ?_; rintro e w6 ⟨rfl, q6, rfl⟩
        rw [show decide (R = R) = true from decide_eq_true rfl]
        go_wp2_with fail
        go_ret
        exact ⟨rfl, hbel5.trans (below_drewNs q6)⟩

end Go.Proofs.YtcgfglgcjpjbaaaDoor
