/-
  Plain facts about the parts of a text between spaces, and about names joined with spaces. No condition.
-/
import Derived.Test.YtcgfglgcjpjbaaaDoorBase
import Derived.Lib.SplitLaws
import Derived.Lib.IndexBytes
import Derived.Lib.IndexLaws
namespace Go.Proofs.YtcgfglgcjpjbaaaDoor
open Go.Lib

/-- The whole parts of a text, and the last one. -/
def cutS (s : List UInt8) : List (List UInt8) × List UInt8 :=
  s.foldl (fun p c => if c = 32 then (p.1 ++ [p.2], []) else (p.1, p.2 ++ [c])) ([], [])
/-- All parts. -/
def parts (s : List UInt8) : List (List UInt8) := (cutS s).1 ++ [(cutS s).2]

theorem cutS_snoc (s : List UInt8) (c : UInt8) : cutS (s ++ [c]) = if c = 32 then ((cutS s).1 ++ [(cutS s).2], []) else ((cutS s).1, (cutS s).2 ++ [c]) := by
  simp [cutS, List.foldl_append]

theorem cut_fold (s : List UInt8) : ∀ (d : List (List UInt8)) (c : List UInt8), (∀ x ∈ c, x ≠ 32) →
    s.foldl (fun p c => if c = 32 then (p.1 ++ [p.2], []) else (p.1, p.2 ++ [c])) (d, c) =
      (d ++ ((s.foldl (fun p c => if c = 32 then (p.1 ++ [p.2], []) else (p.1, p.2 ++ [c])) (([] : List (List UInt8)), c)).1),
        (s.foldl (fun p c => if c = 32 then (p.1 ++ [p.2], []) else (p.1, p.2 ++ [c])) (([] : List (List UInt8)), c)).2) := by
  induction s with
  | nil => intro d c _; simp
  | cons x r ih =>
    intro d c hc
    simp only [List.foldl_cons]
    by_cases hx : x = 32
    · simp only [hx, if_true, List.nil_append]
      rw [ih (d ++ [c]) [] (by simp), ih [c] [] (by simp)]
      simp
    · simp only [hx, if_false]
      exact ih d (c ++ [x]) (by intro y hy; rcases List.mem_append.1 hy with h | h; exact hc y h; simp at h; exact h ▸ hx)

theorem fold_plain (a : List UInt8) : ∀ (d : List (List UInt8)) (c : List UInt8), (∀ x ∈ a, x ≠ 32) →
    a.foldl (fun p c => if c = 32 then (p.1 ++ [p.2], []) else (p.1, p.2 ++ [c])) (d, c) = (d, c ++ a) := by
  induction a with
  | nil => intro d c _; simp
  | cons x r ih =>
    intro d c h
    simp only [List.foldl_cons, h x List.mem_cons_self, if_false]
    rw [ih _ _ (fun y hy => h y (List.mem_cons_of_mem _ hy))]
    simp

theorem parts_plain {a : List UInt8} (h : ∀ x ∈ a, x ≠ 32) : parts a = [a] := by
  unfold parts cutS; rw [fold_plain a _ _ h]; simp
theorem parts_cut {a r : List UInt8} (h : ∀ x ∈ a, x ≠ 32) : parts (a ++ 32 :: r) = a :: parts r := by
  unfold parts cutS
  rw [List.foldl_append, fold_plain a _ _ h, List.foldl_cons]
  simp only [if_true, List.nil_append]
  rw [cut_fold r [a] [] (by simp)]
  simp

theorem no32 {s : List UInt8} (h : index s [32] = -1) : ∀ x ∈ s, x ≠ 32 := by
  intro x hx e
  obtain ⟨k, hk⟩ := List.getElem?_of_mem hx
  rw [index_one] at h
  exact indexByte_none h k (by rw [hk, e])

theorem at32 {s : List UInt8} {i : Nat} (h : index s [32] = i) : s = s.take i ++ 32 :: s.drop (i + 1) ∧ (∀ x ∈ s.take i, x ≠ 32) := by
  rw [index_one] at h
  obtain ⟨h1, h2⟩ := indexByte_some h
  constructor
  · have hd := drop_cons h1
    conv => lhs; rw [← List.take_append_drop i s, hd]
  · intro x hx e
    obtain ⟨k, hk⟩ := List.getElem?_of_mem hx
    have hki : k < i := by
      have := (List.getElem?_eq_some_iff.1 hk).1
      simp at this; omega
    rw [List.getElem?_take, if_pos hki] at hk
    exact h2 k hki (by rw [hk, e])

theorem splitK_parts : ∀ (k : Nat) (s : List UInt8), count s [32] ≤ k → splitK [32] 0 k s = parts s := by
  intro k
  induction k with
  | zero =>
    intro s h
    have hm : index s [32] = -1 := by
      rcases Int.lt_or_le (index s [32]) 0 with hneg | hpos
      · have := index_ge s [32]; omega
      · obtain ⟨i, hi⟩ := Int.eq_ofNat_of_zero_le hpos
        have := count_hit (by simp) hi
        omega
    rw [parts_plain (no32 hm)]; rfl
  | succ k ih =>
    intro s h
    unfold splitK
    by_cases hm : index s [32] = -1
    · rw [if_pos (by simp [hm]), parts_plain (no32 hm)]
    · rw [if_neg (by simpa using hm)]
      have hpos : 0 ≤ index s [32] := by have := index_ge s [32]; omega
      obtain ⟨i, hi⟩ := Int.eq_ofNat_of_zero_le hpos
      obtain ⟨e, hno⟩ := at32 hi
      have hc := count_hit (by simp) hi
      rw [hi]
      simp only [Int.toNat_natCast, Nat.add_zero, List.length_singleton]
      rw [ih _ (by simp at hc; omega)]
      conv => rhs; rw [e]
      rw [parts_cut hno]

end Go.Proofs.YtcgfglgcjpjbaaaDoor
