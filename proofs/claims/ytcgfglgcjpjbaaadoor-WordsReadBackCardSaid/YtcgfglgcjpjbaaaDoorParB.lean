/-
  Plain facts: what Format writes and what Parse reads, of both packages of words. No condition.
-/
import Derived.Test.YtcgfglgcjpjbaaaDoorPar
import Derived.Test.YtcgfglgcjpjbaaaDoorSymW
import Derived.Test.YtcgfglgcjpjbaaaDoorWrdA
import Derived.Test.YtcgfglgcjpjbaaaDoorMade
import Derived.Lib.Join
namespace Go.Proofs.YtcgfglgcjpjbaaaDoor
open Go.Lib

/-- The parts that are not empty. -/
def ne (s : List UInt8) : List (List UInt8) := (parts s).filter (fun p => !p.isEmpty)
theorem ne_nil : ne [] = [] := rfl
theorem ne_space (s : List UInt8) : ne (32 :: s) = ne s := by
  unfold ne
  have := parts_cut (a := []) (r := s) (by simp)
  rw [List.nil_append] at this
  rw [this]; simp
theorem ne_spaces (k : Nat) (s : List UInt8) : ne (List.replicate k 32 ++ s) = ne s := by
  induction k with
  | zero => rfl
  | succ k ih => rw [List.replicate_succ, List.cons_append, ne_space, ih]
theorem ne_word {a : List UInt8} (r : List UInt8) (h : ∀ x ∈ a, x ≠ 32) (h0 : a ≠ []) : ne (a ++ 32 :: r) = a :: ne r := by
  unfold ne
  rw [parts_cut h, List.filter_cons, if_pos (by cases a with | nil => exact absurd rfl h0 | cons => rfl)]

/-- Each space is followed by m more. -/
def wide (m : Nat) (s : List UInt8) : List UInt8 := s.flatMap (fun c => if c = 32 then 32 :: List.replicate m 32 else [c])
theorem wide_plain (m : Nat) {a : List UInt8} (h : ∀ x ∈ a, x ≠ 32) : wide m a = a := by
  induction a with
  | nil => rfl
  | cons x r ih =>
    unfold wide at ih ⊢
    rw [List.flatMap_cons, if_neg (h x List.mem_cons_self), ih (fun y hy => h y (List.mem_cons_of_mem _ hy))]; rfl
theorem wide_append (m : Nat) (a b : List UInt8) : wide m (a ++ b) = wide m a ++ wide m b := by simp [wide]
theorem wide_len (m : Nat) (s : List UInt8) : (wide m s).length ≤ (m + 1) * s.length := by
  induction s with
  | nil => simp [wide]
  | cons x r ih =>
    unfold wide at ih ⊢
    have h1 : ((if x = 32 then 32 :: List.replicate m 32 else [x]) : List UInt8).length ≤ m + 1 := by split <;> simp
    rw [List.flatMap_cons, List.length_append, List.length_cons, Nat.mul_succ]
    generalize (m + 1) * r.length = z at *
    omega

theorem ne_tail (m : Nat) : ∀ (r : List (List UInt8)) (x : List UInt8), (∀ y ∈ x :: r, y ≠ [] ∧ ∀ c ∈ y, c ≠ 32) → ne (x ++ (wide m (joinTail [32] r) ++ [32])) = x :: r
  | [], x, h => by
    obtain ⟨h0, h1⟩ := h x List.mem_cons_self
    have : wide m (joinTail [32] []) ++ [32] = 32 :: [] := rfl
    rw [this, ne_word [] h1 h0]; rfl
  | y :: r, x, h => by
    obtain ⟨h0, h1⟩ := h x List.mem_cons_self
    have hy := h y (by simp)
    have e : wide m (joinTail [32] (y :: r)) ++ [32] = 32 :: (List.replicate m 32 ++ (y ++ (wide m (joinTail [32] r) ++ [32]))) := by
      have : joinTail [32] (y :: r) = [32] ++ (y ++ joinTail [32] r) := by simp [joinTail]
      rw [this, wide_append, wide_append, wide_plain m hy.2]
      simp [wide]
    rw [e, ne_word _ h1 h0, ne_spaces, ne_tail m r y (fun z hz => h z (List.mem_cons_of_mem _ hz))]

theorem ne_wide (m : Nat) (l : List (List UInt8)) (h : ∀ y ∈ l, y ≠ [] ∧ ∀ c ∈ y, c ≠ 32) : ne (32 :: 32 :: (wide m (join l [32]) ++ [32])) = l := by
  rw [ne_space, ne_space]
  cases l with
  | nil => rw [join_nil]; show ne (32 :: []) = []; rw [ne_space]; rfl
  | cons x r =>
    rw [join_cons, wide_append, wide_plain m (h x List.mem_cons_self).2, List.append_assoc]
    exact ne_tail m r x h

theorem join_snoc (l : List (List UInt8)) (y : List UInt8) (h : l ≠ []) : join (l ++ [y]) [32] = join l [32] ++ 32 :: y := by
  cases l with
  | nil => exact absurd rfl h
  | cons x r => rw [List.cons_append, join_cons, join_cons]; simp [joinTail]
theorem join_len {l : List (List UInt8)} (h : ∀ y ∈ l, y.length ≤ 24) : (join l [32]).length ≤ 25 * l.length := by
  induction l with
  | nil => simp [join_nil]
  | cons x r ih =>
    rw [join_cons]
    have hx := h x List.mem_cons_self
    have ht : ∀ r : List (List UInt8), (∀ y ∈ r, y.length ≤ 24) → (joinTail [32] r).length ≤ 25 * r.length := by
      intro r hr
      induction r with
      | nil => simp [joinTail]
      | cons y r ih =>
        have := ih (fun z hz => hr z (List.mem_cons_of_mem _ hz))
        have hy := hr y List.mem_cons_self
        unfold joinTail at this ⊢
        simp only [List.map_cons, List.flatten_cons, List.length_append, List.length_cons, List.length_nil]
        omega
    have := ht r (fun z hz => h z (List.mem_cons_of_mem _ hz))
    rw [List.length_append, List.length_cons]; omega

/-- The names of a word. -/
def namesW (T : List ByteArray) (l : List Int) : List ByteArray := l.map (nameS T)
/-- What Format writes. -/
def fmtL (T : List ByteArray) (l : List Int) : List UInt8 := join ((namesW T l).map (·.data.toList)) [32]
theorem namesW_snoc (T : List ByteArray) (l : List Int) (x : Int) : namesW T (l ++ [x]) = namesW T l ++ [nameS T x] := by simp [namesW]
theorem fmtL_nil (T : List ByteArray) : fmtL T [] = [] := rfl
theorem fmtL_one (T : List ByteArray) (x : Int) : fmtL T [x] = (nameS T x).data.toList := join_one _ _
theorem fmtL_snoc (T : List ByteArray) (l : List Int) (x : Int) (h : l ≠ []) : fmtL T (l ++ [x]) = fmtL T l ++ 32 :: (nameS T x).data.toList := by
  unfold fmtL
  rw [namesW_snoc, List.map_append, List.map_cons, List.map_nil]
  exact join_snoc _ _ (by simpa [namesW] using h)

theorem nameS_word {T : List ByteArray} (hv : valid T = true) {x : Int} (h1 : 1 ≤ x) (h2 : x ≤ T.length) : nameS T x ∈ T := by
  obtain ⟨j, rfl⟩ : ∃ j : Nat, x = j + 1 := ⟨(x - 1).toNat, by omega⟩
  have hj : j < T.length := by omega
  rw [nameS_at hv (List.getElem?_eq_getElem hj)]
  exact List.getElem_mem hj

theorem okW_in {l : List Int} {s : Int} (h : okW l s = true) : ∀ x ∈ l, 1 ≤ x ∧ x ≤ s := (of_decide_eq_true h).2.2.2

theorem namesW_facts {T : List ByteArray} (hv : valid T = true) {l : List Int} (h : ∀ x ∈ l, 1 ≤ x ∧ x ≤ (T.length : Int)) : ∀ y ∈ (namesW T l).map (·.data.toList), y ≠ [] ∧ y.length ≤ 24 ∧ ∀ c ∈ y, c ≠ 32 := by
  intro y hy
  simp only [namesW, List.map_map, List.mem_map] at hy
  obtain ⟨x, hx, rfl⟩ := hy
  obtain ⟨h1, h2, h3⟩ := named_facts (valid_named hv _ (nameS_word hv (h x hx).1 (h x hx).2))
  simp only [Function.comp_apply]
  refine ⟨fun e => ?_, by rw [← size_eq]; exact h2, fun c hc e => ?_⟩
  · rw [size_eq, e] at h1; simp at h1
  · have := h3 c hc
    subst e
    revert this; decide

theorem fmtL_len {T : List ByteArray} (hv : valid T = true) {l : List Int} (h : ∀ x ∈ l, 1 ≤ x ∧ x ≤ (T.length : Int)) : (fmtL T l).length ≤ 25 * l.length := by
  have := join_len (l := (namesW T l).map (·.data.toList)) (fun y hy => (namesW_facts hv h y hy).2.1)
  simpa [fmtL, namesW] using this

/-- The parts of a text that are not empty. -/
def fieldsW (s : ByteArray) : List ByteArray := (ne s.data.toList).map (fun l => ⟨l.toArray⟩)

theorem pieces_fields (P : List ByteArray) : ((P.map (·.data.toList)).filter (fun p => !p.isEmpty)).map (fun l => (⟨l.toArray⟩ : ByteArray)) = P.filter (fun x => decide (x.size ≠ 0)) := by
  induction P with
  | nil => rfl
  | cons x P ih =>
    by_cases h : x.size = 0
    · have h2 : x.data.toList = [] := by
        rw [size_eq] at h
        exact List.eq_nil_of_length_eq_zero h
      rw [List.map_cons, List.filter_cons_of_neg (by rw [h2]; decide), List.filter_cons_of_neg (by simp [h])]
      exact ih
    · have h2 : (!x.data.toList.isEmpty) = true := by
        cases hc : x.data.toList with
        | nil => rw [size_eq, hc] at h; simp at h
        | cons => rfl
      rw [List.map_cons, List.filter_cons_of_pos (p := fun p : List UInt8 => !p.isEmpty) h2, List.filter_cons_of_pos (by simp [h]), List.map_cons, ih]

/-- What Parse finds: the error, the symbols. -/
def prsErr (T : List ByteArray) (Q : List ByteArray) : Int := if Q.all (fun x => findS T x != 0) then (if 256 < Q.length then 2 else 0) else 3
def prsRes (T : List ByteArray) (Q : List ByteArray) : List Int := if prsErr T Q = 0 then Q.map (fun x => (findS T x : Int)) else []

/-- Parse of what Format writes, with more spaces. -/
theorem prs_fmt {T : List ByteArray} (hv : valid T = true) {l : List Int} (h : ∀ x ∈ l, 1 ≤ x ∧ x ≤ (T.length : Int)) (hl : l.length ≤ 256) (m : Nat) (s : ByteArray) (hs : s.data.toList = 32 :: 32 :: (wide m (fmtL T l) ++ [32])) :
    prsErr T (fieldsW s) = 0 ∧ prsRes T (fieldsW s) = l := by
  have hq : fieldsW s = namesW T l := by
    unfold fieldsW
    rw [hs]
    unfold fmtL
    rw [ne_wide m _ (fun y hy => ⟨(namesW_facts hv h y hy).1, (namesW_facts hv h y hy).2.2⟩), List.map_map]
    conv => rhs; rw [← List.map_id (namesW T l)]
    apply List.map_congr_left
    intro x _
    rfl
  have hall : (fieldsW s).all (fun x => findS T x != 0) = true := by
    rw [hq, List.all_eq_true]
    intro y hy
    simp only [namesW, List.mem_map] at hy
    obtain ⟨x, hx, rfl⟩ := hy
    have := find_name hv (h x hx).1 (h x hx).2
    have h1 := (h x hx).1
    simp only [bne_iff_ne, ne_eq]
    omega
  have he : prsErr T (fieldsW s) = 0 := by
    unfold prsErr
    rw [if_pos hall, if_neg (by rw [hq]; simp [namesW]; omega)]
  refine ⟨he, ?_⟩
  unfold prsRes
  rw [if_pos he, hq]
  unfold namesW
  rw [List.map_map]
  conv => rhs; rw [← List.map_id l]
  apply List.map_congr_left
  intro x hx
  exact find_name hv (h x hx).1 (h x hx).2

end Go.Proofs.YtcgfglgcjpjbaaaDoor
