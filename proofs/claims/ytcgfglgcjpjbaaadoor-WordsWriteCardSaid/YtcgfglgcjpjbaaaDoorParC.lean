/-
  Plain facts: the state of a loop that finds the parts of a text between spaces. No condition.
-/
import Derived.Test.YtcgfglgcjpjbaaaDoorParB
namespace Go.Proofs.YtcgfglgcjpjbaaaDoor
open Go.Lib
set_option linter.unusedSimpArgs false

/-- The parts that are not empty, as texts. -/
def neB (L : List (List UInt8)) : List ByteArray := (L.filter (fun p => !p.isEmpty)).map (fun l => ⟨l.toArray⟩)
theorem fieldsW_eq (s : ByteArray) : fieldsW s = neB (parts s.data.toList) := rfl
theorem neB_empty (D : List (List UInt8)) : neB (D ++ [[]]) = neB D := by simp [neB]
theorem neB_snoc (D : List (List UInt8)) {c : List UInt8} (h : c ≠ []) {z : ByteArray} (hz : z.data.toList = c) : neB (D ++ [c]) = neB D ++ [z] := by
  have h1 : (!c.isEmpty) = true := by cases c with | nil => exact absurd rfl h | cons => rfl
  have h2 : (⟨c.toArray⟩ : ByteArray) = z := by rw [← hz]
  unfold neB
  rw [List.filter_append, List.map_append]
  simp [h1, h2, h]

theorem cutS_suffix (s : List UInt8) : ∃ p, s = p ++ (cutS s).2 := by
  have : ∀ r : List UInt8, ∃ p, r.reverse = p ++ (cutS r.reverse).2 := by
    intro r
    induction r with
    | nil => exact ⟨[], rfl⟩
    | cons x r ih =>
      obtain ⟨p, hp⟩ := ih
      rw [List.reverse_cons, cutS_snoc]
      by_cases hx : x = 32
      · rw [if_pos hx]; exact ⟨r.reverse ++ [x], by simp⟩
      · rw [if_neg hx]
        exact ⟨p, by simp only; rw [← List.append_assoc, ← hp]⟩
  have h := this s.reverse
  rwa [List.reverse_reverse] at h

theorem cutS_take {s : List UInt8} {k : Nat} {x : UInt8} (h : s[k]? = some x) : cutS (s.take (k + 1)) = if x = 32 then ((cutS (s.take k)).1 ++ [(cutS (s.take k)).2], []) else ((cutS (s.take k)).1, (cutS (s.take k)).2 ++ [x]) := by
  rw [take_snoc h, cutS_snoc]

/-- The state ahead of byte k: the parts found, and where the last one begins (-1: nowhere). -/
def FInv (s : List UInt8) (k : Nat) (P : List ByteArray) (f : Int) : Prop :=
  if k ≤ s.length then P = neB (cutS (s.take k)).1 ∧ f = (if (cutS (s.take k)).2 = [] then -1 else (k : Int) - (cutS (s.take k)).2.length) else P = neB (parts s) ∧ f = -1

theorem finv0 (s : List UInt8) : FInv s 0 [] (-1) := by unfold FInv; rw [if_pos (Nat.zero_le _)]; exact ⟨rfl, rfl⟩
theorem finv_end {s : List UInt8} {k : Nat} {P : List ByteArray} {f : Int} (h : FInv s k P f) (hk : s.length < k) : P = neB (parts s) := by
  unfold FInv at h; rw [if_neg (by omega)] at h; exact h.1

theorem finv_from {s : List UInt8} {k : Nat} {P : List ByteArray} {f : Int} (h : FInv s k P f) (hk : k ≤ s.length) :
    (f = -1 ∧ (cutS (s.take k)).2 = []) ∨ ∃ g : Nat, f = g ∧ g < k ∧ (cutS (s.take k)).2 ≠ [] ∧ (s.take k).drop g = (cutS (s.take k)).2 ∧ g + (cutS (s.take k)).2.length = k := by
  unfold FInv at h; rw [if_pos hk] at h
  obtain ⟨_, hf⟩ := h
  by_cases hc : (cutS (s.take k)).2 = []
  · rw [if_pos hc] at hf; exact .inl ⟨hf, hc⟩
  · rw [if_neg hc] at hf
    obtain ⟨p, hp⟩ := cutS_suffix (s.take k)
    have hl : p.length + (cutS (s.take k)).2.length = k := by
      have := congrArg List.length hp
      rw [List.length_take, List.length_append, Nat.min_eq_left hk] at this
      omega
    have hpos : 0 < (cutS (s.take k)).2.length := List.length_pos_iff.2 hc
    refine .inr ⟨p.length, by omega, by omega, hc, ?_, hl⟩
    conv => lhs; rw [hp]
    rw [List.drop_left]

theorem finv_some {s : List UInt8} {k : Nat} {P : List ByteArray} {f : Int} (h : FInv s k P f) (hk : k ≤ s.length) : P = neB (cutS (s.take k)).1 := by
  unfold FInv at h; rw [if_pos hk] at h; exact h.1

theorem finv_in {s : List UInt8} {k : Nat} {x : UInt8} {P : List ByteArray} {f : Int} (h : FInv s k P f) (hx : s[k]? = some x) :
    (f = -1 ∧ (x = 32 → FInv s (k + 1) P (-1)) ∧ (x ≠ 32 → FInv s (k + 1) P k)) ∨
    (∃ g : Nat, f = g ∧ g < k ∧ (x = 32 → ∀ z : ByteArray, z.data.toList = (s.take k).drop g → FInv s (k + 1) (P ++ [z]) (-1)) ∧ (x ≠ 32 → FInv s (k + 1) P g)) := by
  have hk := (List.getElem?_eq_some_iff.1 hx).1
  have hP := finv_some h (by omega)
  have hc := cutS_take hx
  rcases finv_from h (by omega) with ⟨rfl, h0⟩ | ⟨g, rfl, hg, h0, hd, hl⟩
  · refine .inl ⟨rfl, fun e => ?_, fun e => ?_⟩
    · unfold FInv; rw [if_pos (by omega), hc, if_pos e]
      simp only [if_true]
      exact ⟨by rw [h0, neB_empty]; exact hP, trivial⟩
    · unfold FInv; rw [if_pos (by omega), hc, if_neg e]
      simp only [h0, List.nil_append]
      exact ⟨hP, by simp⟩
  · refine .inr ⟨g, rfl, hg, fun e z hz => ?_, fun e => ?_⟩
    · unfold FInv; rw [if_pos (by omega), hc, if_pos e]
      simp only [if_true]
      exact ⟨by rw [neB_snoc _ h0 (hz.trans hd), hP], trivial⟩
    · unfold FInv; rw [if_pos (by omega), hc, if_neg e]
      refine ⟨hP, ?_⟩
      rw [if_neg (by simp), List.length_append, List.length_singleton]
      omega

theorem finv_last {s : List UInt8} {P : List ByteArray} {f : Int} (h : FInv s s.length P f) :
    (f = -1 ∧ FInv s (s.length + 1) P (-1)) ∨ (∃ g : Nat, f = g ∧ g < s.length ∧ ∀ z : ByteArray, z.data.toList = (s.take s.length).drop g → FInv s (s.length + 1) (P ++ [z]) (-1)) := by
  have hP := finv_some h (Nat.le_refl _)
  have hall : s.take s.length = s := List.take_length
  rcases finv_from h (Nat.le_refl _) with ⟨rfl, h0⟩ | ⟨g, rfl, hg, h0, hd, hl⟩
  · refine .inl ⟨rfl, ?_⟩
    unfold FInv; rw [if_neg (by omega)]
    rw [hall] at h0 hP
    exact ⟨by unfold parts; rw [h0, neB_empty]; exact hP, rfl⟩
  · refine .inr ⟨g, rfl, hg, fun z hz => ?_⟩
    unfold FInv; rw [if_neg (by omega)]
    have hz := hz.trans hd
    rw [hall] at h0 hP hz
    exact ⟨by unfold parts; rw [neB_snoc _ h0 hz, hP], rfl⟩

end Go.Proofs.YtcgfglgcjpjbaaaDoor
