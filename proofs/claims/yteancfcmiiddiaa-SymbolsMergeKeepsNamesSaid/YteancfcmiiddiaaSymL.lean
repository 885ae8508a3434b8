/-
  What the merged table is: plain facts on lists. No condition.
-/
import Derived.Test.YteancfcmiiddiaaSymK
namespace Go.Proofs.Yteancfcmiiddiaa
open Go.RowKit

theorem okUpto_append {l r : List ByteArray} : ∀ {k : Nat}, k ≤ l.length → okUpto (l ++ r) k = okUpto l k
  | 0, _ => rfl
  | k + 1, h => by
    have hk : k < l.length := by omega
    have h1 : l[k]? = some l[k] := List.getElem?_eq_getElem hk
    have h2 : (l ++ r)[k]? = some l[k] := by rw [List.getElem?_append_left hk, h1]
    rw [okUpto_succ h1, okUpto_succ h2, okUpto_append (Nat.le_of_lt hk), List.take_append_of_le_length (Nat.le_of_lt hk)]

theorem okUpto_snoc {l : List ByteArray} {x : ByteArray} (h : okUpto l l.length = true) (hn : named x = true) (hf : findN l x = 0) : okUpto (l ++ [x]) (l ++ [x]).length = true := by
  rw [List.length_append, List.length_singleton, okUpto_succ (x := x) (by simp), okUpto_append (Nat.le_refl _), h, hn]
  simp [hf]

theorem ok_named {T : List ByteArray} (h : okUpto T T.length = true) : ∀ x ∈ T, named x = true := by
  intro x hx
  obtain ⟨j, hj⟩ := List.getElem?_of_mem hx
  have hl := (List.getElem?_eq_some_iff.1 hj).1
  simp only [okUpto, List.all_eq_true] at h
  have := h j (List.mem_range.2 hl)
  rw [hj] at this
  simp only [Bool.and_eq_true] at this
  exact this.1

theorem findN_pos {l : List ByteArray} {s : ByteArray} (h : findN l s ≠ 0) : ∃ j, findN l s = j + 1 ∧ l[j]? = some s := by
  have hp : place l s < l.length := by unfold findN at h; split at h; assumption; exact absurd rfl h
  refine ⟨place l s, by unfold findN; rw [if_pos hp], ?_⟩
  have hb := List.findIdx_getElem (w := hp)
  have : l[place l s] = s := of_decide_eq_true (beq_strs ▸ hb)
  rw [List.getElem?_eq_getElem hp, this]

theorem findN_mem {l : List ByteArray} {s : ByteArray} (h : s ∈ l) : findN l s ≠ 0 := by
  intro h0
  have := (List.all_eq_true.1 (findN_zero h0)) s h
  simp at this

/-- What holds of the table and the numbers behind the names L. -/
structure Inv (T : List ByteArray) (p : List ByteArray × List Int) (L : List ByteArray) : Prop where
  ok : okUpto p.1 p.1.length = true
  pre : ∃ r, p.1 = T ++ r
  len : p.2.length = L.length
  at_ : ∀ (i : Nat) x, L[i]? = some x → ∃ j : Nat, p.2[i]? = some ((j : Int) + 1) ∧ p.1[j]? = some x

theorem Inv.step {T : List ByteArray} {p : List ByteArray × List Int} {L : List ByteArray} (h : Inv T p L) {x : ByteArray} (hx : named x = true) : Inv T (mstep p x) (L ++ [x]) := by
  obtain ⟨r, hr⟩ := h.pre
  unfold mstep
  by_cases hf : findN p.1 x = 0
  · rw [if_pos hf]
    refine ⟨okUpto_snoc h.ok hx hf, ⟨r ++ [x], by simp [hr]⟩, by simp [h.len], fun i y hy => ?_⟩
    by_cases hi : i < L.length
    · rw [List.getElem?_append_left hi] at hy
      obtain ⟨j, h1, h2⟩ := h.at_ i y hy
      have hj := (List.getElem?_eq_some_iff.1 h2).1
      exact ⟨j, by rw [List.getElem?_append_left (by rw [h.len]; exact hi), h1], by rw [List.getElem?_append_left hj, h2]⟩
    · have hi' : i = L.length := by
        have := (List.getElem?_eq_some_iff.1 hy).1
        simp at this; omega
      subst hi'
      simp at hy
      subst hy
      exact ⟨p.1.length, by rw [← h.len]; simp, by simp⟩
  · rw [if_neg hf]
    refine ⟨h.ok, h.pre, by simp [h.len], fun i y hy => ?_⟩
    by_cases hi : i < L.length
    · rw [List.getElem?_append_left hi] at hy
      obtain ⟨j, h1, h2⟩ := h.at_ i y hy
      exact ⟨j, by rw [List.getElem?_append_left (by rw [h.len]; exact hi), h1], h2⟩
    · have hi' : i = L.length := by
        have := (List.getElem?_eq_some_iff.1 hy).1
        simp at this; omega
      subst hi'
      simp at hy
      subst hy
      obtain ⟨j, h1, h2⟩ := findN_pos hf
      exact ⟨j, by rw [← h.len, h1]; simp, h2⟩

theorem Inv.steps {T : List ByteArray} : ∀ (U L : List ByteArray) (p : List ByteArray × List Int), Inv T p L → (∀ x ∈ U, named x = true) → Inv T (U.foldl mstep p) (L ++ U)
  | [], L, p, h, _ => by simpa using h
  | x :: U, L, p, h, hU => by
    have := Inv.steps U (L ++ [x]) (mstep p x) (h.step (hU x (by simp))) (fun y hy => hU y (by simp [hy]))
    simpa using this

theorem inv_merged {T U : List ByteArray} (hT : valid T = true) (hU : valid U = true) : Inv T (merged T U) U := by
  have h0 : Inv T (T, []) [] := ⟨valid_ok hT, ⟨[], by simp⟩, rfl, fun i x hx => by simp at hx⟩
  have := Inv.steps U [] (T, []) h0 (ok_named (valid_ok hU))
  simpa [merged] using this

theorem same_steps {M : List ByteArray} : ∀ (U : List ByteArray) (o : List Int), (∀ x ∈ U, x ∈ M) → (U.foldl mstep (M, o)).1 = M
  | [], _, _ => rfl
  | x :: U, o, h => by
    simp only [List.foldl_cons]
    have : mstep (M, o) x = (M, o ++ [(findN M x : Int)]) := by unfold mstep; rw [if_neg (findN_mem (h x (by simp)))]
    rw [this]
    exact same_steps U _ (fun y hy => h y (by simp [hy]))

/-- All that the law asks of a merge that is OK. -/
theorem merge_facts {T U : List ByteArray} (hT : valid T = true) (hU : valid U = true) (hE : mergeE T U = 0) :
    (mergeTo T U).length = U.length ∧ T.length ≤ (mergeT T U).length ∧ (mergeT T U).take T.length = T ∧ valid (mergeT T U) = true ∧ (∀ (i : Nat) x, U[i]? = some x → ∃ k : Int, (mergeTo T U)[i]? = some k ∧ nameS (mergeT T U) k = x) ∧
    mergeT (mergeT T U) U = mergeT T U ∧ mergeE (mergeT T U) U = 0 ∧ (mergeT T U).length ≤ 32 ∧ ∀ k ∈ mergeTo T U, 1 ≤ k ∧ k ≤ 32 := by
  have h32 : (merged T U).1.length ≤ 32 := by
    simp only [mergeE, hT, hU, Bool.and_self, if_true] at hE
    split at hE
    · assumption
    · omega
  have hok : mergeOk T U = true := by simp [mergeOk, hT, hU, h32]
  have e1 : mergeT T U = (merged T U).1 := by rw [mergeT, if_pos hok]
  have e2 : mergeTo T U = (merged T U).2 := by rw [mergeTo, if_pos hok]
  rw [e1, e2]
  have I := inv_merged hT hU
  obtain ⟨r, hr⟩ := I.pre
  have hv : valid (merged T U).1 = true := by
    have h1 := valid_len1 hT
    simp only [valid, Bool.and_eq_true, decide_eq_true_eq]
    exact ⟨⟨by rw [hr]; simp; omega, h32⟩, I.ok⟩
  have hmem : ∀ x ∈ U, x ∈ (merged T U).1 := by
    intro x hx
    obtain ⟨i, hi⟩ := List.getElem?_of_mem hx
    obtain ⟨j, _, hj⟩ := I.at_ i x hi
    exact List.mem_of_getElem? hj
  have hs : (merged (merged T U).1 U).1 = (merged T U).1 := same_steps U [] hmem
  refine ⟨I.len, by rw [hr]; simp, by rw [hr]; simp, hv, fun i x hx => ?_, ?_, ?_, h32, fun k hk => ?_⟩
  · obtain ⟨j, h1, h2⟩ := I.at_ i x hx
    exact ⟨_, h1, nameS_at hv h2⟩
  · rw [mergeT, if_pos (by simp [mergeOk, hv, hU, hs, h32]), hs]
  · simp [mergeE, hv, hU, hs, h32]
  · obtain ⟨i, hi⟩ := List.getElem?_of_mem hk
    have hl := (List.getElem?_eq_some_iff.1 hi).1
    rw [I.len] at hl
    obtain ⟨j, h1, h2⟩ := I.at_ i _ (List.getElem?_eq_getElem hl)
    rw [hi] at h1
    have := (List.getElem?_eq_some_iff.1 h2).1
    simp at h1
    omega

end Go.Proofs.Yteancfcmiiddiaa
