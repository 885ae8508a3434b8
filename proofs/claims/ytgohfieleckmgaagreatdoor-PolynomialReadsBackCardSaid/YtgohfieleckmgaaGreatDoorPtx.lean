/-
  Texts of polynomials as lists of bytes: plain facts. No condition, no program.
-/
import Derived.Test.YtgohfieleckmgaaGreatDoorPlyS
import Derived.Test.YtgohfieleckmgaaGreatDoorDec
import Derived.Test.YtgohfieleckmgaaGreatDoorRatU
namespace Go.Proofs.YtgohfieleckmgaaGreatDoor
open Go.RowKit Go.Lib
set_option linter.unusedSimpArgs false
set_option linter.unusedVariables false

/-- A parameter with its exponent. -/
def powT (c : UInt8) (k : Nat) : List UInt8 := if k = 1 then [c] else [c, 94, UInt8.ofNat (48 + k)]
/-- .. as a list: none for the exponent 0. -/
def facT (c : UInt8) (k : Nat) : List (List UInt8) := if k = 0 then [] else [powT c k]
def parT (e : Ex) : List (List UInt8) := facT 97 e.1 ++ facT 98 e.2.1 ++ facT 99 e.2.2
/-- The coefficient, where it is written. -/
def cofT (e : Ex) (q : Rat) : List (List UInt8) := if q ≠ 1 ∨ deg e = 0 then [fmtQ q] else []
/-- A monomial without its sign. -/
def monT (e : Ex) (q : Rat) : List UInt8 := join (cofT e (absQ q) ++ parT e) [42]
/-- What stands before a monomial. -/
def sigT (first neg : Bool) : List UInt8 := if first then (if neg then [45] else []) else (if neg then [32, 45, 32] else [32, 43, 32])
def oneT (first : Bool) (m : Ex × Rat) : List UInt8 := sigT first (decide (m.2.num < 0)) ++ monT m.1 m.2
def txtL : List (Ex × Rat) → List UInt8
  | [] => []
  | m :: l => oneT true m ++ (l.map (oneT false)).flatten
/-- The text of a polynomial. -/
def fmtP (P : Pl) : List UInt8 := if lst P = [] then [48] else txtL (lst P)

theorem txtL_snoc (l : List (Ex × Rat)) (m : Ex × Rat) : txtL (l ++ [m]) = txtL l ++ oneT l.isEmpty m := by
  cases l with
  | nil => simp [txtL]
  | cons x l => simp [txtL, List.append_assoc]
theorem txtL_take {l : List (Ex × Rat)} {i : Nat} {m : Ex × Rat} (h : l[i]? = some m) : txtL (l.take (i + 1)) = txtL (l.take i) ++ oneT (decide (i = 0)) m := by
  rw [List.take_add_one, h]
  show txtL (l.take i ++ [m]) = _
  rw [txtL_snoc]
  congr 2
  cases i with
  | zero => simp
  | succ i =>
    have : 0 < l.length := by have := (List.getElem?_eq_some_iff.1 h).1; omega
    cases l with
    | nil => simp at this
    | cons x l => simp
theorem fmtP_congr {P Q : Pl} (h : EqP P Q) : fmtP P = fmtP Q := by unfold fmtP; rw [lst_congr h]

/-! ### Sizes -/
theorem powT_len (c : UInt8) (k : Nat) : (powT c k).length ≤ 3 := by unfold powT; split <;> simp
theorem powT_ne (c : UInt8) (k : Nat) : powT c k ≠ [] := by unfold powT; split <;> simp
theorem fmtQ_ne (q : Rat) : fmtQ q ≠ [] := by
  unfold fmtQ
  intro h
  simp only [List.append_eq_nil_iff] at h
  exact dec_ne _ h.1.2
theorem nDigits_le' : ∀ (k n : Nat), 1 ≤ k → n < 10 ^ k → nDigits n ≤ k
  | 0, _, h, _ => absurd h (by omega)
  | 1, n, _, h => by rw [nDigits, dif_pos (by simpa using h)]; exact Nat.le_refl _
  | k + 2, n, _, h => by
    rw [nDigits]
    split
    · omega
    · have := nDigits_le' (k + 1) (n / 10) (by omega) (by rw [Nat.pow_succ] at h; omega)
      omega
theorem join_le (l : List (List UInt8)) (s : List UInt8) : (join l s).length ≤ s.length * l.length + lens l := by
  cases l with
  | nil => simp [join_nil]
  | cons x r => rw [join_length]; simp only [List.length_cons, Nat.mul_add]; omega
theorem lens_facT (c : UInt8) (k : Nat) : lens (facT c k) ≤ 3 ∧ (facT c k).length ≤ 1 := by
  unfold facT
  split
  · exact ⟨by simp [lens], by simp⟩
  · exact ⟨by simp [lens]; exact powT_len c k, by simp⟩
theorem lens_app (l m : List (List UInt8)) : lens (l ++ m) = lens l + lens m := by simp [lens]
theorem monT_len (e : Ex) (q : Rat) : (monT e q).length ≤ (fmtQ (absQ q)).length + 13 := by
  unfold monT
  refine Nat.le_trans (join_le _ _) ?_
  have h1 := lens_facT 97 e.1
  have h2 := lens_facT 98 e.2.1
  have h3 := lens_facT 99 e.2.2
  have h4 : lens (cofT e (absQ q)) ≤ (fmtQ (absQ q)).length ∧ (cofT e (absQ q)).length ≤ 1 := by
    unfold cofT; split
    · exact ⟨by simp [lens], by simp⟩
    · exact ⟨by simp [lens], by simp⟩
  unfold parT
  rw [lens_app, lens_app, lens_app]
  simp only [List.length_append, List.length_cons, List.length_nil]
  omega
theorem sigT_len (f g : Bool) : (sigT f g).length ≤ 3 := by cases f <;> cases g <;> simp [sigT]
theorem flat_len (l : List (Ex × Rat)) (M : Nat) (h : ∀ m ∈ l, (fmtQ (absQ m.2)).length ≤ M) : ((l.map (oneT false)).flatten).length ≤ l.length * (M + 16) := by
  induction l with
  | nil => simp
  | cons m l ih =>
    have h1 := ih fun x hx => h x (List.mem_cons_of_mem _ hx)
    have h2 := h m List.mem_cons_self
    have h3 := monT_len m.1 m.2
    have h4 := sigT_len false (decide (m.2.num < 0))
    simp only [List.map_cons, List.flatten_cons, List.length_append, oneT, List.length_cons, Nat.succ_mul] at *
    omega
theorem txtL_len (l : List (Ex × Rat)) (M : Nat) (h : ∀ m ∈ l, (fmtQ (absQ m.2)).length ≤ M) : (txtL l).length ≤ l.length * (M + 16) := by
  cases l with
  | nil => simp [txtL]
  | cons m l =>
    have h1 := flat_len l M fun x hx => h x (List.mem_cons_of_mem _ hx)
    have h2 := h m List.mem_cons_self
    have h3 := monT_len m.1 m.2
    have h4 := sigT_len true (decide (m.2.num < 0))
    unfold txtL
    simp only [List.length_append, oneT, List.length_cons, Nat.succ_mul] at *
    omega
theorem join_ne {l : List (List UInt8)} {s : List UInt8} {x : List UInt8} (h : l.head? = some x) (hx : x ≠ []) : join l s ≠ [] := by
  cases l with
  | nil => simp at h
  | cons y r =>
    simp only [List.head?_cons, Option.some.injEq] at h
    subst h
    rw [join_cons]
    intro k
    exact hx (List.append_eq_nil_iff.1 k).1
theorem monT_ne (e : Ex) (q : Rat) : monT e q ≠ [] := by
  unfold monT
  by_cases hc : absQ q ≠ 1 ∨ deg e = 0
  · have : cofT e (absQ q) = [fmtQ (absQ q)] := if_pos hc
    rw [this]
    exact join_ne (x := fmtQ (absQ q)) rfl (fmtQ_ne _)
  · have : cofT e (absQ q) = [] := if_neg hc
    rw [this, List.nil_append]
    have hd : deg e ≠ 0 := fun h => hc (.inr h)
    obtain ⟨a, b, c⟩ := e
    unfold deg at hd
    simp only at hd
    unfold parT facT
    simp only
    by_cases ha : a = 0
    · by_cases hb : b = 0
      · have hc' : c ≠ 0 := by omega
        simp only [ha, hb, hc', if_true, if_false, List.nil_append]
        exact join_ne (x := powT 99 c) rfl (powT_ne _ _)
      · simp only [ha, hb, if_true, if_false, List.nil_append, List.cons_append]
        exact join_ne (x := powT 98 b) rfl (powT_ne _ _)
    · simp only [ha, if_false, List.cons_append, List.nil_append]
      exact join_ne (x := powT 97 a) rfl (powT_ne _ _)
theorem txtL_ne {l : List (Ex × Rat)} (h : l ≠ []) : txtL l ≠ [] := by
  cases l with
  | nil => exact absurd rfl h
  | cons m l =>
    unfold txtL oneT
    intro k
    have := (List.append_eq_nil_iff.1 (List.append_eq_nil_iff.1 k).1).2
    exact monT_ne _ _ this
end Go.Proofs.YtgohfieleckmgaaGreatDoor
