/-
  weightedlaw04.awake returns true; the walk of SymbolsMerge. No condition but sizes.
-/
import Derived.Test.YteancfcmiiddiaaSymH
namespace Go.Proofs.Yteancfcmiiddiaa
open Go.RowKit

def sA : ByteArray := ⟨#[97]⟩
def sB : ByteArray := ⟨#[98]⟩
def sC : ByteArray := ⟨#[99]⟩

theorem awake_T : mergeT [sA, sB] [sB, sC] = [sA, sB, sC] := by decide +kernel
theorem awake_To : mergeTo [sA, sB] [sB, sC] = [2, 3] := by decide +kernel
theorem awake_E : mergeE [sA, sB] [sB, sC] = 0 := by decide +kernel

theorem Sl.two {w : World} {e e' : TypeId} {x y z u : Value} : Sl ((w.alloc (.cells #[x, y] e)).alloc (.cells #[z, u] e')) (some ⟨w.heap.size, 0, none⟩) 2 2 [x, y] :=
  (Sl.lit w [x, y] e (by simp [maxLen])).next (below_alloc _)

set_option maxHeartbeats 400000 in
theorem awake_any (w : World) : Calls Try.prog 15 #[] w fun e w' => e = .returned (.bool true) ∧ Below w.heap.size w w' := by
  have l1 : Sl ((w.alloc (.cells #[.string sA, .string sB] 9)).alloc (.cells #[.string sB, .string sC] 9)) (some ⟨w.heap.size, 0, none⟩) 2 2 ([sA, sB].map .string) := Sl.two
  have l2 : Sl ((w.alloc (.cells #[.string sA, .string sB] 9)).alloc (.cells #[.string sB, .string sC] 9)) (some ⟨w.heap.size + 1, 0, none⟩) 2 2 ([sB, sC].map .string) := by
    have := Sl.lit (w.alloc (.cells #[.string sA, .string sB] 9)) [.string sB, .string sC] 9 (by simp [maxLen])
    rw [World.size_alloc] at this
    exact this
  go_enter Try.func15, Try.ntmps15
  go_wp2_with fail
  refine (Merge_any [sA, sB] [sB, sC] _ _ _ _ _ _ _ l1 l2).mono ?_; rintro e w1 ⟨ao, bo, n, m, c, d, rfl, s1, s2, hb⟩
  rw [awake_E]
  rw [awake_T] at s1; rw [awake_To] at s2
  have hb : Below w.heap.size w w1 := ((below_alloc _).alloc (by simp only [World.size_alloc]; omega) _).trans (hb.mono (by simp only [World.size_alloc]; omega))
  clear l1 l2
  have l3 : Sl (w1.alloc (.cells #[.string sA, .string sB, .string sC] 9)) (some ⟨w1.heap.size, 0, none⟩) 3 3 ([sA, sB, sC].map .string) := Sl.lit w1 [.string sA, .string sB, .string sC] _ (by simp [maxLen])
  go_wp2_with fail
  refine (sameStr_any _ _ _ _ _ _ _ _ _ (s1.next (below_alloc _)) l3).mono ?_; rintro e w2 ⟨rfl, hb2⟩
  rw [decide_eq_true (rfl : [sA, sB, sC] = [sA, sB, sC])]
  have hb3 : Below w1.heap.size w1 w2 := (below_alloc _).trans (hb2.mono (by simp only [World.size_alloc]; omega))
  have s2 := s2.next hb3
  have hb4 := hb.trans (hb3.mono hb.size)
  have l4 : Sl (w2.alloc (.cells #[.int .i64 2, .int .i64 3] 3)) (some ⟨w2.heap.size, 0, none⟩) 2 2 ([2, 3].map (.int .i64)) := Sl.lit w2 [.int .i64 2, .int .i64 3] _ (by simp [maxLen])
  clear l3 s1
  go_wp2_with fail
  refine (sameInt_any _ _ _ _ _ _ _ _ _ (s2.next (below_alloc _)) l4).mono ?_; rintro e w3 ⟨rfl, hb5⟩
  rw [decide_eq_true (rfl : ([2, 3] : List Int) = [2, 3])]
  go_wp2_with fail
  go_ret
  exact ⟨rfl, (hb4.alloc hb4.size _).trans (hb5.mono (by have := hb4.size; simp only [World.size_alloc]; omega))⟩

theorem few_sizes {T : List ByteArray} (h : fewStrings T = true) : ∀ x ∈ T, x.size ≤ 140737488355328 := by
  intro x hx
  simp only [fewStrings, Bool.and_eq_true, List.all_eq_true, decide_eq_true_eq] at h
  have := h.2 x hx
  omega

set_option maxHeartbeats 400000 in
theorem lawMerge_any (T U : List ByteArray) (ao bo : Option Addr) (n m cap cap' : Nat) (w : World) (h : Sl w ao n cap (T.map .string)) (h' : Sl w bo m cap' (U.map .string)) (hc : ao = none → cap = 0) :
    Calls Try.prog 3 #[.slice ao n cap, .slice bo m cap'] w fun e w' => e = .returned (.bool true) ∧ Below w.heap.size w w' := by
  go_enter Try.func3, Try.ntmps3
  go_wp2_with fail
  refine (Strings_any T _ _ _ _ h).mono ?_; rintro e w1 ⟨rfl, rfl⟩
  cases hT : fewStrings T with
  | false =>
    go_wp2_with fail
    refine (awake_any _).mono ?_; rintro e w1 ⟨rfl, hb⟩
    go_wp2_with fail
    go_ret
    exact ⟨rfl, hb⟩
  | true =>
    go_wp2_with fail
    refine (Strings_any U _ _ _ _ h').mono ?_; rintro e w1 ⟨rfl, rfl⟩
    cases hU : fewStrings U with
    | false =>
      go_wp2_with fail
      refine (awake_any _).mono ?_; rintro e w1 ⟨rfl, hb⟩
      go_wp2_with fail
      go_ret
      exact ⟨rfl, hb⟩
    | true =>
      go_wp2_with fail
      refine (Merge_any T U _ _ _ _ _ _ _ h h').mono ?_; rintro e w1 ⟨ao1, bo1, n1, m1, c1, d1, rfl, s1, s2, hb1⟩
      go_wp2_with fail
      refine (rMerge_any T U _ _ _ _ _ _ _ (h.next hb1) (h'.next hb1) hc (few_sizes hT) (few_sizes hU)).mono ?_; rintro e w2 ⟨ao2, bo2, n2, m2, c2, d2, rfl, s3, s4, hb2'⟩
      have hb2 : Below w.heap.size w w2 := hb1.trans (hb2'.mono hb1.size)
      have s1 := s1.below hb2' (Nat.le_refl _)
      have s2 := s2.below hb2' (Nat.le_refl _)
      go_wp2_with fail
      refine (awake_any _).mono ?_; rintro e w3 ⟨rfl, hb3⟩
      go_wp2_with fail
      refine (sameStr_any _ _ _ _ _ _ _ _ _ (s1.next hb3) (s3.next hb3)).mono ?_; rintro e w4 ⟨rfl, hb4⟩
      rw [decide_eq_true (rfl : mergeT T U = mergeT T U)]
      have hb34 := hb3.trans (hb4.mono hb3.size)
      go_wp2_with fail
      refine (sameInt_any _ _ _ _ _ _ _ _ _ (s2.next hb34) (s4.next hb34)).mono ?_; rintro e w5 ⟨rfl, hb5⟩
      rw [decide_eq_true (rfl : mergeTo T U = mergeTo T U)]
      go_wp2_with fail
      go_ret
      exact ⟨rfl, hb2.trans ((hb34.trans (hb5.mono hb34.size)).mono hb2.size)⟩

theorem walkMerge (w : World) (T : List ByteArray) (ao : Option Addr) (n cap : Nat) (h : Sl w ao n cap (T.map .string)) (hc : ao = none → cap = 0) (U : List ByteArray) (bo : Option Addr) (m cap' : Nat) (h' : Sl w bo m cap' (U.map .string)) (_hc' : bo = none → cap' = 0) :
    Calls Try.prog 3 #[.slice ao n cap, .slice bo m cap'] w fun e w' => e = .returned (.bool true) ∧ Below w.heap.size w w' :=
  lawMerge_any T U ao bo n m cap cap' w h h' hc

end Go.Proofs.Yteancfcmiiddiaa
