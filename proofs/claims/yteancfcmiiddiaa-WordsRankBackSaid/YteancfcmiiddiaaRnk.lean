/-
  Plain facts: Unrank of the rank is the word, the next word's rank is one more, words lie as their ranks. No condition.
-/
import Derived.Test.YteancfcmiiddiaaWrdR
namespace Go.Proofs.Yteancfcmiiddiaa
open Go.RowKit
set_option linter.unusedSimpArgs false
set_option linter.unusedVariables false

theorem rank_succR {s : Int} (r : List Int) (h : ∀ x ∈ r, 1 ≤ x ∧ x ≤ s) : rankI s (succR s r).reverse = rankI s r.reverse + 1 := by
  induction r with
  | nil => simp [succR, rankI]
  | cons x r ih =>
    have hx := h x (by simp)
    have ih := ih fun y hy => h y (by simp [hy])
    unfold succR
    split
    · simp [rankI_append]; omega
    · have : x = s := by omega
      subst this
      rw [List.reverse_cons, List.reverse_cons, rankI_append, rankI_append, ih, Int.add_mul]
      omega

theorem rank_next {s : Int} (l : List Int) (h : ∀ x ∈ l, 1 ≤ x ∧ x ≤ s) : rankI s (nextW l s) = rankI s l + 1 := by
  unfold nextW
  have := rank_succR l.reverse (s := s) (fun x hx => h x (by simpa using hx))
  rwa [List.reverse_reverse] at this

theorem succR_mem {s : Int} (hs : 1 ≤ s) (r : List Int) (h : ∀ x ∈ r, 1 ≤ x ∧ x ≤ s) : ∀ x ∈ succR s r, 1 ≤ x ∧ x ≤ s := by
  induction r with
  | nil => intro x hx; simp [succR] at hx; omega
  | cons y r ih =>
    have hy := h y (by simp)
    have ih := ih fun z hz => h z (by simp [hz])
    unfold succR
    split
    · intro x hx
      rcases List.mem_cons.1 hx with rfl | hx
      · omega
      · exact h x (by simp [hx])
    · intro x hx
      rcases List.mem_cons.1 hx with rfl | hx
      · omega
      · exact ih x hx

theorem next_mem {s : Int} (hs : 1 ≤ s) (l : List Int) (h : ∀ x ∈ l, 1 ≤ x ∧ x ≤ s) : ∀ x ∈ nextW l s, 1 ≤ x ∧ x ≤ s := by
  intro x hx
  unfold nextW at hx
  exact succR_mem hs l.reverse (fun y hy => h y (by simpa using hy)) x (by simpa using hx)

theorem next_len (l : List Int) (s : Int) : (nextW l s).length ≤ l.length + 1 := by
  unfold nextW
  have := succR_len s l.reverse
  simp at this ⊢
  omega

theorem rank_nonneg {s : Int} (hs : 1 ≤ s) (l : List Int) (h : ∀ x ∈ l, 1 ≤ x ∧ x ≤ s) : 0 ≤ rankI s l := by
  rw [show l = l.reverse.reverse by simp] at h ⊢
  generalize l.reverse = r at *
  induction r with
  | nil => simp [rankI]
  | cons x r ih =>
    rw [List.reverse_cons] at h ⊢
    rw [rankI_append]
    have h1 := ih fun y hy => h y (by simp at hy ⊢; exact .inl hy)
    have h2 := h x (by simp)
    have := Int.mul_nonneg h1 (show (0 : Int) ≤ s by omega)
    omega

theorem unr_rank {s : Nat} (hs : 1 ≤ s) (l : List Int) (h : ∀ x ∈ l, 1 ≤ x ∧ x ≤ (s : Int)) : unr s (rankI s l).toNat = l := by
  rw [show l = l.reverse.reverse by simp] at h ⊢
  generalize l.reverse = r at *
  induction r with
  | nil => simp [rankI, unr_zero]
  | cons x r ih =>
    rw [List.reverse_cons] at h ⊢
    rw [rankI_append]
    have h1 : ∀ y ∈ r.reverse, 1 ≤ y ∧ y ≤ (s : Int) := fun y hy => h y (by simp at hy ⊢; exact .inl hy)
    obtain ⟨x1, x2⟩ := h x (by simp)
    have h3 := rank_nonneg (s := (s : Int)) (by omega) _ h1
    obtain ⟨R, hR⟩ := Int.eq_ofNat_of_zero_le h3
    obtain ⟨X, rfl⟩ := Int.eq_ofNat_of_zero_le (show 0 ≤ x by omega)
    have ih := ih h1
    rw [hR] at ih ⊢
    rw [Int.toNat_natCast] at ih
    have e : ((R : Int) * (s : Int) + (X : Int)).toNat = R * s + X := by
      rw [← Int.natCast_mul, ← Int.natCast_add, Int.toNat_natCast]
    rw [e, unr_pos (by omega) (by omega)]
    have e1 : (R * s + X - 1) / s = R := by
      rw [show R * s + X - 1 = (X - 1) + s * R by rw [Nat.mul_comm]; omega, Nat.add_mul_div_left _ _ (by omega), Nat.div_eq_of_lt (by omega)]
      omega
    have e2 : (R * s + X - 1) % s = X - 1 := by
      rw [show R * s + X - 1 = (X - 1) + s * R by rw [Nat.mul_comm]; omega, Nat.add_mul_mod_self_left, Nat.mod_eq_of_lt (by omega)]
    rw [e1, e2, ih, show X - 1 + 1 = X by omega]

theorem lexc_snoc (v w : List Int) (x y : Int) (h : v.length = w.length) : lexc (v ++ [x]) (w ++ [y]) = if lexc v w = 0 then (if x < y then -1 else if y < x then 1 else 0) else lexc v w := by
  induction v generalizing w with
  | nil =>
    obtain rfl := List.eq_nil_of_length_eq_zero h.symm
    simp [lexc]
  | cons a v ih =>
    cases w with
    | nil => simp at h
    | cons b w =>
      have := ih w (by simpa using h)
      simp only [List.cons_append, lexc]
      split
      · simp
      · split
        · simp
        · exact this

/-- The sign of a difference. -/
def sgI (a b : Int) : Int := if a < b then -1 else if b < a then 1 else 0

theorem lexc_rank {s : Int} (hs : 1 ≤ s) (v w : List Int) (hl : v.length = w.length) (hv : ∀ x ∈ v, 1 ≤ x ∧ x ≤ s) (hw : ∀ x ∈ w, 1 ≤ x ∧ x ≤ s) : lexc v w = sgI (rankI s v) (rankI s w) := by
  rw [show v = v.reverse.reverse by simp] at hl hv ⊢
  rw [show w = w.reverse.reverse by simp] at hl hw ⊢
  generalize v.reverse = p at *
  generalize w.reverse = q at *
  induction p generalizing q with
  | nil =>
    have : q = [] := by simpa using hl.symm
    subst this
    simp [lexc, sgI]
  | cons x p ih =>
    cases q with
    | nil => simp at hl
    | cons y q =>
      simp only [List.reverse_cons] at hl hv hw ⊢
      have h1 : ∀ y ∈ p.reverse, 1 ≤ y ∧ y ≤ s := fun y hy => hv y (by simp at hy ⊢; exact .inl hy)
      have h2 : ∀ y ∈ q.reverse, 1 ≤ y ∧ y ≤ s := fun y hy => hw y (by simp at hy ⊢; exact .inl hy)
      have hl2 : p.reverse.length = q.reverse.length := by simpa using hl
      have ih := ih h1 q h2 hl2
      obtain ⟨x1, x2⟩ := hv x (by simp)
      obtain ⟨y1, y2⟩ := hw y (by simp)
      rw [lexc_snoc _ _ _ _ hl2, ih, rankI_append, rankI_append]
      generalize rankI s p.reverse = R
      generalize rankI s q.reverse = T
      unfold sgI
      rcases Int.lt_trichotomy R T with h | h | h
      · have : (R + 1) * s ≤ T * s := Int.mul_le_mul_of_nonneg_right (by omega) (by omega)
        rw [Int.add_mul] at this
        have hA : (if R < T then (-1 : Int) else if T < R then 1 else 0) = -1 := if_pos h
        rw [hA, if_neg (by decide), if_pos (by omega)]
      · subst h
        have hA : (if R < R then (-1 : Int) else if R < R then 1 else 0) = 0 := by rw [if_neg (by omega), if_neg (by omega)]
        rw [hA, if_pos rfl]
        by_cases h1 : x < y
        · rw [if_pos h1, if_pos (by omega)]
        · rw [if_neg h1, if_neg (show ¬ R * s + x < R * s + y by omega)]
          by_cases h2 : y < x
          · rw [if_pos h2, if_pos (by omega)]
          · rw [if_neg h2, if_neg (by omega)]
      · have : (T + 1) * s ≤ R * s := Int.mul_le_mul_of_nonneg_right (by omega) (by omega)
        rw [Int.add_mul] at this
        have hA : (if R < T then (-1 : Int) else if T < R then 1 else 0) = 1 := by rw [if_neg (by omega), if_pos h]
        rw [hA, if_neg (by decide), if_neg (by omega), if_pos (by omega)]

theorem rank_len {s : Nat} (hs : 1 ≤ s) (l : List Int) (h : ∀ x ∈ l, 1 ≤ x ∧ x ≤ (s : Int)) (k : Nat) : l.length ≤ k ↔ (rankI s l).toNat ≤ topR s k := by
  rw [← unr_len (by omega), unr_rank hs l h]

theorem cmp_rank {s : Nat} (hs : 1 ≤ s) (v w : List Int) (hv : ∀ x ∈ v, 1 ≤ x ∧ x ≤ (s : Int)) (hw : ∀ x ∈ w, 1 ≤ x ∧ x ≤ (s : Int)) : cmpW v w = sgI (rankI s v) (rankI s w) := by
  have nv := rank_nonneg (s := (s : Int)) (by omega) v hv
  have nw := rank_nonneg (s := (s : Int)) (by omega) w hw
  unfold cmpW
  split
  · have h1 := (rank_len hs v hv v.length).1 (Nat.le_refl _)
    have h2 : ¬ (rankI s w).toNat ≤ topR s v.length := fun h => by have := (rank_len hs w hw v.length).2 h; omega
    unfold sgI
    rw [if_pos (by omega)]
  · split
    · have h1 := (rank_len hs w hw w.length).1 (Nat.le_refl _)
      have h2 : ¬ (rankI s v).toNat ≤ topR s w.length := fun h => by have := (rank_len hs v hv w.length).2 h; omega
      unfold sgI
      rw [if_neg (by omega), if_pos (by omega)]
    · exact lexc_rank (by omega) v w (by omega) hv hw

theorem rsg_sub (a b : Int) : rsg ((a : Rat) - (b : Rat)) = sgI a b := by
  rw [← Rat.intCast_sub]
  unfold sgI
  rcases rsg_cases (((a - b : Int)) : Rat) with ⟨h, h2⟩ | ⟨h, h2⟩ | ⟨h, h2⟩ <;> rw [h] <;> rw [Rat.num_intCast] at h2
  · rw [if_pos (by omega)]
  · rw [if_neg (by omega), if_neg (by omega)]
  · rw [if_neg (by omega), if_pos (by omega)]

end Go.Proofs.Yteancfcmiiddiaa
