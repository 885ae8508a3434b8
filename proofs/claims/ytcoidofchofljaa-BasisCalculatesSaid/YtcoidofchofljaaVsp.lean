/-
  Plain facts about rows that reduce vectors of rational numbers one after the other. No condition, no program.
-/
import Derived.Test.YtcoidofchofljaaBase
namespace Go.Proofs.Ytcoidofchofljaa

theorem list_snoc {α : Type} {P : List α → Prop} (h0 : P []) (h1 : ∀ l a, P l → P (l ++ [a])) (l : List α) : P l := by
  have : ∀ r : List α, P r.reverse := by
    intro r
    induction r with
    | nil => exact h0
    | cons x r ih => rw [List.reverse_cons]; exact h1 _ _ ih
  simpa using this l.reverse

abbrev V := Nat → Rat
/-- A row: a vector, the multipliers of which it is the sum, a place where it is not 0. -/
structure Row where
  v : V
  c : V
  pl : Nat

def redF (p : V) (r : Row) : Rat := p r.pl / r.v r.pl
def redStep (p : V × V) (r : Row) : V × V := (fun i => p.1 i - redF p.1 r * r.v i, fun i => p.2 i + redF p.1 r * r.c i)
def zeroV : V := fun _ => 0
/-- What the rows leave of a vector, and the multipliers of what was taken away. -/
def red (st : List Row) (v : V) : V × V := st.foldl redStep (v, zeroV)
/-- The first place below n that is not 0. -/
def leadOf (n : Nat) (v : V) : Option Nat := (List.range n).find? (fun i => v i != 0)
def rowOf (k : Nat) (p : V × V) (pl : Nat) : Row := ⟨p.1, fun i => if i < k then - p.2 i else if i = k then 1 else 0, pl⟩
/-- The row that a vector adds, if any. -/
def addV (n : Nat) (st : List Row) (v : V) : Option Row := (leadOf n (red st v).1).map (rowOf st.length (red st v))
/-- The rows of independent vectors. -/
def rowsOf (n : Nat) : List V → Option (List Row)
  | l => l.foldl (fun o v => o.bind fun st => (addV n st v).map fun r => st ++ [r]) (some [])
theorem leadOf_some {n : Nat} {v : V} {p : Nat} (h : leadOf n v = some p) : p < n ∧ v p ≠ 0 ∧ ∀ i, i < p → v i = 0 := by
  unfold leadOf at h
  rw [List.find?_range_eq_some] at h
  obtain ⟨h1, h2, h3⟩ := h
  refine ⟨List.mem_range.1 h2, by simpa using h1, fun i hi => ?_⟩
  have := h3 i hi
  simpa using this
theorem leadOf_none {n : Nat} {v : V} (h : leadOf n v = none) : ∀ i, i < n → v i = 0 := by
  unfold leadOf at h
  rw [List.find?_range_eq_none] at h
  intro i hi
  simpa using h i hi
theorem leadOf_of {n : Nat} {v : V} {p : Nat} (h1 : p < n) (h2 : v p ≠ 0) (h3 : ∀ i, i < p → v i = 0) : leadOf n v = some p := by
  unfold leadOf
  rw [List.find?_range_eq_some]
  exact ⟨by simpa using h2, List.mem_range.2 h1, fun i hi => by simpa using h3 i hi⟩
theorem leadOf_no {n : Nat} {v : V} (h : ∀ i, i < n → v i = 0) : leadOf n v = none := by
  unfold leadOf
  rw [List.find?_range_eq_none]
  intro i hi; simpa using h i hi

theorem red_snoc (st : List Row) (r : Row) (v : V) : red (st ++ [r]) v = redStep (red st v) r := by simp [red, List.foldl_append]

/-- The rows reduce sums of multiples. -/
theorem fold_lin (a b : Rat) (st : List Row) : ∀ (u u' w w' : V), st.foldl redStep (fun i => a * u i + b * w i, fun i => a * u' i + b * w' i) =
    (fun i => a * (st.foldl redStep (u, u')).1 i + b * (st.foldl redStep (w, w')).1 i, fun i => a * (st.foldl redStep (u, u')).2 i + b * (st.foldl redStep (w, w')).2 i) := by
  induction st with
  | nil => intros; rfl
  | cons r st ih =>
    intro u u' w w'
    simp only [List.foldl_cons]
    have e : redStep (fun i => a * u i + b * w i, fun i => a * u' i + b * w' i) r =
        (fun i => a * (redStep (u, u') r).1 i + b * (redStep (w, w') r).1 i, fun i => a * (redStep (u, u') r).2 i + b * (redStep (w, w') r).2 i) := by
      have hf : redF (fun i => a * u i + b * w i) r = a * redF u r + b * redF w r := by
        unfold redF; rw [Rat.div_def, Rat.div_def, Rat.div_def]; grind
      unfold redStep
      simp only [hf]
      refine Prod.ext (funext fun i => ?_) (funext fun i => ?_) <;> simp only <;> grind
    rw [e]
    exact ih _ _ _ _

theorem red_lin (a b : Rat) (st : List Row) (u w : V) : red st (fun i => a * u i + b * w i) = (fun i => a * (red st u).1 i + b * (red st w).1 i, fun i => a * (red st u).2 i + b * (red st w).2 i) := by
  have := fold_lin a b st u zeroV w zeroV
  unfold red
  rw [← this]
  congr 2
  funext i; simp only [zeroV]; grind

/-- Rows that independent vectors have made. -/
inductive Good (n : Nat) : List Row → List V → Prop
  | nil : Good n [] []
  | snoc {st : List Row} {l : List V} {v : V} {r : Row} (h : Good n st l) (ha : addV n st v = some r) : Good n (st ++ [r]) (l ++ [v])

theorem Good.len {n : Nat} {st : List Row} {l : List V} (h : Good n st l) : st.length = l.length := by
  induction h with
  | nil => rfl
  | snoc _ _ ih => simp [ih]

theorem addV_some {n : Nat} {st : List Row} {v : V} {r : Row} (h : addV n st v = some r) : ∃ p, leadOf n (red st v).1 = some p ∧ r = rowOf st.length (red st v) p := by
  unfold addV at h
  cases hl : leadOf n (red st v).1 with
  | none => rw [hl] at h; cases h
  | some p => rw [hl] at h; exact ⟨p, rfl, by simpa using h.symm⟩

theorem rowsOf_good {n : Nat} {st : List Row} {l : List V} (h : Good n st l) : rowsOf n l = some st := by
  induction h with
  | nil => rfl
  | snoc h ha ih =>
    unfold rowsOf at ih ⊢
    rw [List.foldl_append, ih]
    simp [ha]
theorem good_rowsOf {n : Nat} {l : List V} : ∀ {st : List Row}, rowsOf n l = some st → Good n st l := by
  refine list_snoc (P := fun l => ∀ {st : List Row}, rowsOf n l = some st → Good n st l) ?_ ?_ l
  · intro st h; cases h; exact .nil
  · intro l v ih st h
    unfold rowsOf at h ih
    rw [List.foldl_append] at h
    simp only [List.foldl_cons, List.foldl_nil, Option.bind_eq_some_iff, Option.map_eq_some_iff] at h
    obtain ⟨st0, h0, r, hr, rfl⟩ := h
    exact .snoc (ih h0) hr

/-- What is left is 0 at the rows' places. -/
theorem Good.places {n : Nat} {st : List Row} {l : List V} (h : Good n st l) : (∀ r ∈ st, r.v r.pl ≠ 0) ∧ (∀ v : V, ∀ r ∈ st, (red st v).1 r.pl = 0) ∧ (∀ v : V, ∀ i, st.length ≤ i → (red st v).2 i = 0) := by
  induction h with
  | nil => exact ⟨by simp, by simp, fun v i _ => rfl⟩
  | @snoc st l v r h ha ih =>
    obtain ⟨h1, h2, h3⟩ := ih
    obtain ⟨p, hp, rfl⟩ := addV_some ha
    obtain ⟨_, hp2, _⟩ := leadOf_some hp
    have hne : (rowOf st.length (red st v) p).v (rowOf st.length (red st v) p).pl ≠ 0 := hp2
    refine ⟨?_, ?_, ?_⟩
    · intro r hr
      rcases List.mem_append.1 hr with hr | hr
      · exact h1 r hr
      · rw [List.mem_singleton.1 hr]; exact hne
    · intro u r hr
      rw [red_snoc]
      rcases List.mem_append.1 hr with hr | hr
      · have e1 := h2 u r hr
        have e2 : (rowOf st.length (red st v) p).v r.pl = 0 := h2 v r hr
        simp only [redStep, e1, e2]; grind
      · rw [List.mem_singleton.1 hr]
        simp only [redStep, redF]
        rw [Rat.div_mul_cancel hne]
        grind
    · intro u i hi
      rw [red_snoc]
      have e1 := h3 u i (by simp at hi; omega)
      have e2 : (rowOf st.length (red st v) p).c i = 0 := by
        simp at hi
        show (if i < st.length then _ else if i = st.length then _ else _) = _
        rw [if_neg (by omega), if_neg (by omega)]
      simp only [redStep, e1, e2]; grind

/-- The sum of multiples of vectors. -/
def lin (w : V) (l : List V) : V := fun i => ((List.range l.length).map fun j => w j * (l.getD j zeroV) i).sum

theorem lin_nil (w : V) : lin w [] = zeroV := rfl
theorem lin_snoc (w : V) (l : List V) (v : V) : lin w (l ++ [v]) = fun i => lin w l i + w l.length * v i := by
  funext i
  unfold lin
  rw [List.length_append, List.length_singleton, List.range_succ, List.map_append, List.sum_append]
  congr 1
  · congr 1
    apply List.map_congr_left
    intro j hj
    have := List.mem_range.1 hj
    rw [List.getD_eq_getElem?_getD, List.getD_eq_getElem?_getD, List.getElem?_append_left this]
  · simp [List.getD]; grind
theorem lin_add (a : Rat) (w w' : V) (l : List V) : lin (fun j => w j + a * w' j) l = fun i => lin w l i + a * lin w' l i := by
  refine list_snoc (P := fun l => lin (fun j => w j + a * w' j) l = fun i => lin w l i + a * lin w' l i) ?_ ?_ l
  · funext i; simp only [lin_nil, zeroV]; grind
  · intro l v ih; rw [lin_snoc, lin_snoc, lin_snoc, ih]; funext i; simp only; grind
theorem lin_zero (l : List V) : lin zeroV l = zeroV := by
  refine list_snoc (P := fun l => lin zeroV l = zeroV) rfl ?_ l
  intro l v ih; rw [lin_snoc, ih]; funext i; simp only [zeroV]; grind
theorem lin_congr {w w' : V} {l : List V} (h : ∀ j, j < l.length → w j = w' j) : lin w l = lin w' l := by
  funext i
  unfold lin
  congr 1
  apply List.map_congr_left
  intro j hj
  rw [h j (List.mem_range.1 hj)]

/-- A vector is what is left and the sum of what was taken. -/
theorem Good.sum {n : Nat} {st : List Row} {l : List V} (h : Good n st l) : ∀ v : V, ∀ i, v i = (red st v).1 i + lin (red st v).2 l i := by
  induction h with
  | nil => intro v i; show v i = v i + 0; grind
  | @snoc st l v r h ha ih =>
    obtain ⟨p, hp, rfl⟩ := addV_some ha
    intro u i
    rw [red_snoc, lin_snoc]
    have hu := ih u i
    have hv := ih v i
    have hlen := h.len
    have h3 := h.places.2.2
    have e1 : lin (redStep (red st u) (rowOf st.length (red st v) p)).2 l = fun i => lin (red st u).2 l i + (- redF (red st u).1 (rowOf st.length (red st v) p)) * lin (red st v).2 l i := by
      rw [← lin_add]
      apply lin_congr
      intro j hj
      have : (rowOf st.length (red st v) p).c j = - (red st v).2 j := by
        show (if j < st.length then _ else _) = _
        rw [if_pos (by omega)]
      simp only [redStep, this]; grind
    have e2 : (redStep (red st u) (rowOf st.length (red st v) p)).2 l.length = redF (red st u).1 (rowOf st.length (red st v) p) := by
      have h0 := h3 u l.length (by omega)
      have : (rowOf st.length (red st v) p).c l.length = 1 := by
        show (if l.length < st.length then _ else if l.length = st.length then _ else _) = _
        rw [if_neg (by omega), if_pos hlen.symm]
      simp only [redStep, h0, this]; grind
    rw [e2]
    simp only [e1]
    have e3 : (redStep (red st u) (rowOf st.length (red st v) p)).1 i = (red st u).1 i - redF (red st u).1 (rowOf st.length (red st v) p) * (red st v).1 i := rfl
    rw [e3]
    generalize redF (red st u).1 (rowOf st.length (red st v) p) = f at *
    grind

def unitV (j : Nat) : V := fun i => if i = j then 1 else 0

/-- The rows take a vector of which they were made away, as itself. -/
theorem Good.unit {n : Nat} {st : List Row} {l : List V} (h : Good n st l) : ∀ j v, l[j]? = some v → red st v = (zeroV, unitV j) := by
  induction h with
  | nil => intro j v h; simp at h
  | @snoc st l v r h ha ih =>
    obtain ⟨p, hp, rfl⟩ := addV_some ha
    obtain ⟨_, hp2, _⟩ := leadOf_some hp
    have hlen := h.len
    have h3 := h.places.2.2
    intro j u hj
    rw [red_snoc]
    by_cases hjl : j < l.length
    · rw [List.getElem?_append_left hjl] at hj
      rw [ih j u hj]
      have hf : redF zeroV (rowOf st.length (red st v) p) = 0 := by simp [redF, zeroV, Rat.div_def]
      unfold redStep
      simp only [hf]
      refine Prod.ext (funext fun i => ?_) (funext fun i => ?_) <;> simp only [zeroV] <;> grind
    · have hj0 : j = l.length := by
        have := (List.getElem?_eq_some_iff.1 hj).1
        simp at this; omega
      subst hj0
      rw [List.getElem?_append_right (Nat.le_refl _)] at hj
      simp at hj
      subst hj
      have hf : redF (red st v).1 (rowOf st.length (red st v) p) = 1 := by
        show (red st v).1 p / (red st v).1 p = 1
        rw [Rat.div_def]
        exact Rat.mul_inv_cancel _ hp2
      unfold redStep
      simp only [hf]
      refine Prod.ext (funext fun i => ?_) (funext fun i => ?_)
      · show (red st v).1 i - 1 * (red st v).1 i = 0
        grind
      · show (red st v).2 i + 1 * (if i < st.length then - (red st v).2 i else if i = st.length then 1 else 0) = if i = l.length then 1 else 0
        by_cases h1 : i < st.length
        · rw [if_pos h1, if_neg (by omega)]; grind
        · have := h3 v i (by omega)
          rw [if_neg h1, this, hlen]
          split <;> grind

theorem red_zero (st : List Row) : red st zeroV = (zeroV, zeroV) := by
  have := red_lin 0 0 st zeroV zeroV
  have e : (fun i => 0 * zeroV i + 0 * zeroV i) = zeroV := by funext i; simp only [zeroV]; grind
  rw [e] at this
  rw [this]
  refine Prod.ext (funext fun i => ?_) (funext fun i => ?_) <;> simp only [zeroV] <;> grind

/-- The multipliers of a sum of multiples are found. -/
theorem Good.find {n : Nat} {st : List Row} {l : List V} (h : Good n st l) (w : V) : ∀ k, k ≤ l.length → red st (lin w (l.take k)) = (zeroV, fun i => if i < k then w i else 0) := by
  intro k
  induction k with
  | zero => intro _; rw [List.take_zero, lin_nil, red_zero]; rfl
  | succ k ih =>
    intro hk
    have hx : l[k]? = some (l[k]'(by omega)) := List.getElem?_eq_getElem (by omega)
    rw [List.take_add_one, hx]
    simp only [Option.toList_some]
    rw [lin_snoc]
    have e : (fun i => lin w (l.take k) i + w (l.take k).length * (l[k]'(by omega)) i) = fun i => 1 * lin w (l.take k) i + w k * (l[k]'(by omega)) i := by
      funext i
      rw [List.length_take, Nat.min_eq_left (by omega)]; grind
    rw [e, red_lin, ih (by omega), h.unit k _ hx]
    refine Prod.ext (funext fun i => ?_) (funext fun i => ?_)
    · simp only [zeroV]; grind
    · show 1 * (if i < k then w i else 0) + w k * (if i = k then 1 else 0) = if i < k + 1 then w i else 0
      by_cases h1 : i < k
      · rw [if_pos h1, if_neg (by omega), if_pos (by omega)]; grind
      · by_cases h2 : i = k
        · subst h2; simp; grind
        · rw [if_neg h1, if_neg h2, if_neg (by omega)]; grind

/-- The rows and the numbers after k vectors. -/
def selK (n : Nat) (f : Nat → V) : Nat → List Row × List Nat
  | 0 => ([], [])
  | k + 1 => match addV n (selK n f k).1 (f k) with | some r => ((selK n f k).1 ++ [r], (selK n f k).2 ++ [k]) | none => selK n f k

theorem selK_some {n : Nat} {f : Nat → V} {k : Nat} {r : Row} (h : addV n (selK n f k).1 (f k) = some r) : selK n f (k + 1) = ((selK n f k).1 ++ [r], (selK n f k).2 ++ [k]) := by
  rw [selK, h]
theorem selK_none {n : Nat} {f : Nat → V} {k : Nat} (h : addV n (selK n f k).1 (f k) = none) : selK n f (k + 1) = selK n f k := by
  rw [selK, h]

theorem selK_good (n : Nat) (f : Nat → V) : ∀ k, Good n (selK n f k).1 ((selK n f k).2.map f) ∧ ∀ j ∈ (selK n f k).2, j < k := by
  intro k
  induction k with
  | zero => exact ⟨.nil, by simp [selK]⟩
  | succ k ih =>
    cases h : addV n (selK n f k).1 (f k) with
    | none => rw [selK_none h]; exact ⟨ih.1, fun j hj => by have := ih.2 j hj; omega⟩
    | some r =>
      rw [selK_some h]
      refine ⟨by rw [List.map_append]; exact .snoc ih.1 h, fun j hj => ?_⟩
      rcases List.mem_append.1 hj with hj | hj
      · have := ih.2 j hj; omega
      · have := List.mem_singleton.1 hj; omega

/-- The numbers after k vectors stand first. -/
theorem selK_prefix (n : Nat) (f : Nat → V) (k : Nat) : ∀ m, ∃ t, (selK n f (k + m)).2 = (selK n f k).2 ++ t ∧ ∀ j ∈ t, k ≤ j := by
  intro m
  induction m with
  | zero => exact ⟨[], by simp, by simp⟩
  | succ m ih =>
    obtain ⟨t, h1, h2⟩ := ih
    cases h : addV n (selK n f (k + m)).1 (f (k + m)) with
    | none => rw [← Nat.add_assoc, selK_none h]; exact ⟨t, h1, h2⟩
    | some r =>
      rw [← Nat.add_assoc, selK_some h]
      refine ⟨t ++ [k + m], by simp [h1], fun j hj => ?_⟩
      rcases List.mem_append.1 hj with hj | hj
      · exact h2 j hj
      · have := List.mem_singleton.1 hj; omega

/-- The k-th vector is chosen just if it adds a row: at the place of the numbers before it. -/
theorem selK_at (n : Nat) (f : Nat → V) {k m : Nat} (hk : k < m) : ((selK n f m).2[(selK n f k).2.length]? = some k) ↔ (addV n (selK n f k).1 (f k)).isSome = true := by
  obtain ⟨t, h1, h2⟩ := selK_prefix n f (k + 1) (m - (k + 1))
  rw [show k + 1 + (m - (k + 1)) = m by omega] at h1
  cases h : addV n (selK n f k).1 (f k) with
  | none =>
    rw [selK_none h] at h1
    rw [h1, List.getElem?_append_right (Nat.le_refl _)]
    simp only [Nat.sub_self, Option.isSome_none, Bool.false_eq_true, iff_false]
    intro e
    have := h2 k (List.mem_of_getElem? e)
    omega
  | some r =>
    rw [selK_some h] at h1
    rw [h1]
    simp

theorem selK_take (n : Nat) (f : Nat → V) {k m : Nat} (hk : k ≤ m) : (selK n f m).2.take (selK n f k).2.length = (selK n f k).2 := by
  obtain ⟨t, h1, _⟩ := selK_prefix n f k (m - k)
  rw [show k + (m - k) = m by omega] at h1
  rw [h1, List.take_left]

/-- A vector adds a row just if something is left of it. -/
theorem addV_none {n : Nat} {st : List Row} {v : V} : addV n st v = none ↔ ∀ i, i < n → (red st v).1 i = 0 := by
  unfold addV
  rw [Option.map_eq_none_iff]
  exact ⟨leadOf_none, leadOf_no⟩

end Go.Proofs.Ytcoidofchofljaa
