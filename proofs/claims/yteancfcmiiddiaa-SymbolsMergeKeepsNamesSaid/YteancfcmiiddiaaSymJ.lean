/-
  Contracts: symbols.Find, Name, weightedref04.Find, Name, weightedmade.Mod. No condition but sizes.
-/
import Derived.Test.YteancfcmiiddiaaSymI
namespace Go.Proofs.Yteancfcmiiddiaa
open Go.RowKit

/-- P4.2. -/
def nameS (T : List ByteArray) (k : Int) : ByteArray :=
  if valid T = true ∧ 0 ≤ k ∧ k ≤ T.length then (if k = 0 then ⟨#[45]⟩ else T.getD (k.toNat - 1) ⟨#[]⟩) else ⟨#[]⟩
def findS (T : List ByteArray) (s : ByteArray) : Nat := if valid T = true then findN T s else 0

theorem retS {a b : ByteArray} (h : a = b) : Ending.returned (.string a) = .returned (.string b) := by rw [h]

theorem findN_le (T : List ByteArray) (s : ByteArray) : findN T s ≤ T.length := by
  have := place_le T s
  unfold findN; split <;> omega

theorem Find_any (T : List ByteArray) (s : ByteArray) (ao : Option Addr) (n cap : Nat) (w : World) (h : Sl w ao n cap (T.map .string)) :
    Calls Try.prog 23 #[.slice ao n cap, .string s] w fun e w' => e = .returned (.int .i64 (findS T s)) ∧ Below w.heap.size w w' := by
  have hb := h.bound
  have hl := hid h.lenMap
  go_enter Try.func23, Try.ntmps23
  go_wp2_with fail
  refine (Valid_any T _ _ _ _ h).mono ?_; rintro e w1 ⟨rfl, hb1⟩
  cases hv : valid T with
  | false =>
    go_wp2_with fail
    go_ret
    exact ⟨retI (by simp [findS, hv]), hb1⟩
  | true =>
    go_wp2_with fail
    refine (index_any T s _ _ _ _ (h.next hb1)).mono ?_; rintro e w2 ⟨rfl, rfl⟩
    have hf : findN T s ≤ n := by rw [← hl.out]; exact findN_le T s
    go_wp2_with fail
    go_ret
    exact ⟨retI (by simp only [findS, hv, if_true]), hb1⟩

theorem rFind_any (T : List ByteArray) (s : ByteArray) (ao : Option Addr) (n cap : Nat) (w : World) (h : Sl w ao n cap (T.map .string)) (hs : ∀ x ∈ T, x.size ≤ 140737488355328) :
    Calls Try.prog 24 #[.slice ao n cap, .string s] w fun e w' => e = .returned (.int .i64 (findS T s)) ∧ Below w.heap.size w w' := by
  go_enter Try.func24, Try.ntmps24
  go_wp2_with fail
  refine (rValid_any T _ _ _ _ h hs).mono ?_; rintro e w1 ⟨rfl, hb1⟩
  cases hv : valid T with
  | false =>
    go_wp2_with fail
    go_ret
    exact ⟨retI (by simp [findS, hv]), hb1⟩
  | true =>
    go_wp2_with fail
    refine (find_any T s _ _ _ _ (h.next hb1)).mono ?_; rintro e w2 ⟨rfl, rfl⟩
    go_wp2_with fail
    go_ret
    exact ⟨retI (by simp only [findS, hv, if_true]), hb1⟩

theorem Name_any (T : List ByteArray) (k : Int) (ao : Option Addr) (n cap : Nat) (w : World) (h : Sl w ao n cap (T.map .string)) :
    Calls Try.prog 21 #[.slice ao n cap, .int .i64 k] w fun e w' => e = .returned (.string (nameS T k)) ∧ Below w.heap.size w w' := by
  have hb := h.bound
  have hl := hid h.lenMap
  go_enter Try.func21, Try.ntmps21
  go_wp2_with fail
  refine (Valid_any T _ _ _ _ h).mono ?_; rintro e w1 ⟨rfl, hb1⟩
  cases hv : valid T with
  | false =>
    go_wp2_with fail
    go_ret
    exact ⟨retS (by simp [nameS, hv]), hb1⟩
  | true =>
    by_cases h1 : k < 0
    · go_wp2_with fail
      go_ret
      exact ⟨retS (by rw [nameS, if_neg (by omega)]), hb1⟩
    by_cases h2 : (n : Int) < k
    · go_wp2_with fail
      go_ret
      exact ⟨retS (by rw [nameS, if_neg (by rw [hl.out]; omega)]), hb1⟩
    by_cases h3 : k = 0
    · subst h3
      go_wp2_with fail
      go_ret
      exact ⟨retS (by rw [nameS, if_pos ⟨hv, by omega, by omega⟩, if_pos rfl]), hb1⟩
    obtain ⟨j, hj⟩ : ∃ j : Nat, k = j + 1 := ⟨(k - 1).toNat, by omega⟩
    subst hj
    have hjn : j < n := by omega
    obtain ⟨x, hx', b, off, rfl, hcell⟩ := (h.next hb1).get hjn
    have hx := hid hx'; clear hx'
    clear h2
    go_wp2_with fail
    go_ret
    refine ⟨retS ?_, hb1⟩
    rw [nameS, if_pos ⟨hv, by omega, by rw [hl.out]; omega⟩, if_neg (by omega), show ((j : Int) + 1).toNat - 1 = j by omega, List.getD, hx.out]; rfl

theorem rName_any (T : List ByteArray) (k : Int) (ao : Option Addr) (n cap : Nat) (w : World) (h : Sl w ao n cap (T.map .string)) (hs : ∀ x ∈ T, x.size ≤ 140737488355328) :
    Calls Try.prog 25 #[.slice ao n cap, .int .i64 k] w fun e w' => e = .returned (.string (nameS T k)) ∧ Below w.heap.size w w' := by
  have hb := h.bound
  have hl := hid h.lenMap
  go_enter Try.func25, Try.ntmps25
  go_wp2_with fail
  refine (rValid_any T _ _ _ _ h hs).mono ?_; rintro e w1 ⟨rfl, hb1⟩
  cases hv : valid T with
  | false =>
    go_wp2_with fail
    go_ret
    exact ⟨retS (by simp [nameS, hv]), hb1⟩
  | true =>
    by_cases h1 : k < 0
    · go_wp2_with fail
      go_ret
      exact ⟨retS (by rw [nameS, if_neg (by omega)]), hb1⟩
    by_cases h2 : (n : Int) < k
    · go_wp2_with fail
      go_ret
      exact ⟨retS (by rw [nameS, if_neg (by rw [hl.out]; omega)]), hb1⟩
    by_cases h3 : k = 0
    · subst h3
      go_wp2_with fail
      go_ret
      exact ⟨retS (by rw [nameS, if_pos ⟨hv, by omega, by omega⟩, if_pos rfl]), hb1⟩
    obtain ⟨j, hj⟩ : ∃ j : Nat, k = j + 1 := ⟨(k - 1).toNat, by omega⟩
    subst hj
    have hjn : j < n := by omega
    obtain ⟨x, hx', b, off, rfl, hcell⟩ := (h.next hb1).get hjn
    have hx := hid hx'; clear hx'
    clear h2
    go_wp2_with fail
    go_ret
    refine ⟨retS ?_, hb1⟩
    rw [nameS, if_pos ⟨hv, by omega, by rw [hl.out]; omega⟩, if_neg (by omega), show ((j : Int) + 1).toNat - 1 = j by omega, List.getD, hx.out]; rfl

theorem Mod_any (k n : Int) (w : World) (hk : -9223372036854775808 ≤ k ∧ k ≤ 9223372036854775807) (hn : 1 ≤ n) (hn' : n ≤ 4611686018427387904) :
    Calls Try.prog 26 #[.int .i64 k, .int .i64 n] w fun e w' => e = .returned (.int .i64 (k % n)) ∧ w = w' := by
  obtain ⟨hk1, hk2⟩ := hk
  have hm0 := Int.emod_nonneg k (show n ≠ 0 by omega)
  have hm1 := Int.emod_lt_of_pos k (show 0 < n by omega)
  by_cases h0 : 0 ≤ k
  · go_enter Try.func26, Try.ntmps26
    go_wp2_with fail
    go_ret
    exact ⟨rfl, rfl⟩
  · have ht1 : k.tmod n ≤ 0 := by
      have := Int.tmod_nonneg n (show 0 ≤ -k by omega)
      rw [Int.neg_tmod] at this; omega
    have ht2 : -n < k.tmod n := by
      have := Int.tmod_lt_of_pos (-k) (show 0 < n by omega)
      rw [Int.neg_tmod] at this; omega
    have hid2 : Hid (k % n = if k.tmod n < 0 then k.tmod n + n else k.tmod n) := hid (by
      have h1 := Int.emod_add_mul_ediv k n
      have h2 := Int.tmod_add_mul_tdiv k n
      have h3 : (k % n - k.tmod n) = n * (k.tdiv n - k / n) := by rw [Int.mul_sub]; omega
      generalize k.tdiv n - k / n = q at h3
      split
      · have : q = 1 := by
          have hq1 : 0 < q := by
            by_cases hq : q ≤ 0
            · have : n * q ≤ 0 := Int.mul_nonpos_of_nonneg_of_nonpos (by omega) hq
              omega
            · omega
          have hq2 : q < 2 := by
            by_cases hq : 2 ≤ q
            · have : n * 2 ≤ n * q := Int.mul_le_mul_of_nonneg_left hq (by omega)
              omega
            · omega
          omega
        subst this; omega
      · have : q = 0 := by
          have hq1 : -1 < q := by
            by_cases hq : q ≤ -1
            · have : n * q ≤ n * (-1) := Int.mul_le_mul_of_nonneg_left hq (by omega)
              omega
            · omega
          have hq2 : q < 1 := by
            by_cases hq : 1 ≤ q
            · have : n * 1 ≤ n * q := Int.mul_le_mul_of_nonneg_left hq (by omega)
              omega
            · omega
          omega
        subst this; omega)
    by_cases hz : k.tmod n < 0
    · go_enter Try.func26, Try.ntmps26
      go_wp2_with fail
      go_ret
      exact ⟨retI (by rw [hid2.out, if_pos hz]), rfl⟩
    · go_enter Try.func26, Try.ntmps26
      go_wp2_with fail
      go_ret
      exact ⟨retI (by rw [hid2.out, if_neg (by omega)]), rfl⟩

end Go.Proofs.Yteancfcmiiddiaa
