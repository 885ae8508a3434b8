/-
  Decimal numerals and texts of rationals as lists of bytes: plain facts. No condition.
-/
import Derived.Lib.ItoaNum
import Derived.Lib.Atoi
import Derived.Lib.TrimByte
import Derived.Lib.SlTrimSet
import Derived.Lib.Join
import Derived.Lib.IndexMore
import Derived.Test.YtgohfieleckmgaaGreatDoorRatM
namespace Go.Proofs.YtgohfieleckmgaaGreatDoor
open Go.RowKit Go.Lib
set_option linter.unusedSimpArgs false

theorem dec_ten {n : Nat} (h : 10 ≤ n) : decDigits n = decDigits (n / 10) ++ [UInt8.ofNat (48 + n % 10)] := by
  rw [decDigits, dif_neg (by omega)]

theorem head_app {α : Type} {l r : List α} (h : l ≠ []) : (l ++ r).head? = l.head? := by
  cases l with
  | nil => exact absurd rfl h
  | cons a l => rfl

theorem dec_ne (n : Nat) : decDigits n ≠ [] := by
  intro h
  have h1 := decDigits_length n
  have h2 := nDigits_pos n
  rw [h] at h1; simp at h1; omega

theorem digitVal_of {d : Nat} (h : d < 10) : digitVal (UInt8.ofNat (48 + d)) = some d := by
  have e : (UInt8.ofNat (48 + d)).toNat = 48 + d := by simp; omega
  unfold digitVal
  rw [e, if_pos (by omega)]
  simp

theorem of_digitVal {b : UInt8} {d : Nat} (h : digitVal b = some d) : d < 10 ∧ b = UInt8.ofNat (48 + d) := by
  obtain ⟨h1, h2, h3⟩ := digitVal_eq h
  refine ⟨by omega, ?_⟩
  apply UInt8.toNat_inj.1
  simp; omega

theorem decFrom_append : ∀ (l : List UInt8) (r : List UInt8) (a m : Nat), decFrom a l = some m → decFrom a (l ++ r) = decFrom m r
  | [], r, a, m, h => by simp only [decFrom, Option.some.injEq] at h; subst h; rfl
  | b :: l, r, a, m, h => by
    simp only [decFrom, List.cons_append] at h ⊢
    cases hd : digitVal b with
    | none => rw [hd] at h; cases h
    | some d => rw [hd] at h; exact decFrom_append l r _ m h

theorem decFrom_none_append : ∀ (l : List UInt8) (r : List UInt8) (a : Nat), decFrom a l = none → decFrom a (l ++ r) = none
  | [], r, a, h => by simp [decFrom] at h
  | b :: l, r, a, h => by
    simp only [decFrom, List.cons_append] at h ⊢
    cases hd : digitVal b with
    | none => rfl
    | some d => rw [hd] at h; exact decFrom_none_append l r _ h

/-- Digits behind a number. -/
theorem decFrom_shift : ∀ (l : List UInt8) (a v : Nat), decFrom 0 l = some v → decFrom a l = some (a * 10 ^ l.length + v) := by
  have key : ∀ (l : List UInt8) (c v a : Nat), decFrom c l = some v → decFrom (a + c) l = some (a * 10 ^ l.length + v) := by
    intro l
    induction l with
    | nil => intro c v a h; simp only [decFrom, Option.some.injEq] at h; subst h; simp [decFrom]
    | cons b l ih =>
      intro c v a h
      simp only [decFrom] at h ⊢
      cases hd : digitVal b with
      | none => rw [hd] at h; cases h
      | some d =>
        rw [hd] at h
        have := ih (c * 10 + d) v (a * 10) h
        show decFrom ((a + c) * 10 + d) l = _
        rw [show (a + c) * 10 + d = a * 10 + (c * 10 + d) by omega]
        simp only [List.length_cons, Nat.pow_succ] at this ⊢
        rw [this, Nat.mul_assoc, Nat.mul_comm 10]
  intro l a v h
  have := key l 0 v a h
  simpa using this

theorem decFrom_dec (n : Nat) : decFrom 0 (decDigits n) = some n := by
  induction n using Nat.strongRecOn with
  | _ n ih =>
    by_cases h : n < 10
    · rw [decDigits_one h]; simp only [decFrom]; rw [digitVal_of h]; simp
    · rw [dec_ten (by omega), decFrom_append _ _ _ _ (ih (n / 10) (by omega))]
      simp only [decFrom]
      rw [digitVal_of (by omega)]
      simp; omega

theorem dec_head (n : Nat) (h : 0 < n) : (decDigits n).head? ≠ some 48 := by
  induction n using Nat.strongRecOn with
  | _ n ih =>
    by_cases h1 : n < 10
    · rw [decDigits_one h1]
      simp only [List.head?_cons]
      intro e
      have e := congrArg UInt8.toNat (Option.some.inj e)
      simp at e; omega
    · rw [dec_ten (by omega), head_app (dec_ne _)]
      exact ih (n / 10) (by omega) (by omega)

/-- A row of digits without a 0 ahead is the numeral of its number. -/
theorem dec_unique (l : List UInt8) : l ≠ [] → l.head? ≠ some 48 → ∀ n, decFrom 0 l = some n → l = decDigits n ∧ 0 < n := by
  induction h : l.length generalizing l with
  | zero => intro h0; exact absurd (List.eq_nil_of_length_eq_zero h) h0
  | succ k ih =>
    intro h0 hh n hn
    have hl : l = l.dropLast ++ [l.getLast h0] := (List.dropLast_concat_getLast h0).symm
    generalize l.getLast h0 = b at hl
    by_cases hd : l.dropLast = []
    · rw [hd] at hl
      subst hl
      simp only [List.nil_append, decFrom] at hn
      cases hv : digitVal b with
      | none => rw [hv] at hn; cases hn
      | some d =>
        rw [hv] at hn
        simp at hn
        obtain ⟨hd1, rfl⟩ := of_digitVal hv
        subst hn
        have hd0 : d ≠ 0 := by rintro rfl; exact hh rfl
        exact ⟨by rw [decDigits_one hd1]; rfl, by omega⟩
    · have hlen : l.dropLast.length = k := by rw [List.length_dropLast, h]; rfl
      have hhd : l.dropLast.head? ≠ some 48 := by
        rw [hl, head_app hd] at hh; exact hh
      generalize l.dropLast = l' at *
      subst hl
      cases hm : decFrom 0 l' with
      | none => rw [decFrom_none_append _ _ _ hm] at hn; cases hn
      | some m =>
        obtain ⟨e1, e2⟩ := ih l' hlen hd hhd m hm
        rw [decFrom_append _ _ _ _ hm] at hn
        simp only [decFrom] at hn
        cases hv : digitVal b with
        | none => rw [hv] at hn; cases hn
        | some d =>
          rw [hv] at hn
          simp at hn
          obtain ⟨hd1, rfl⟩ := of_digitVal hv
          subst hn
          rw [dec_ten (by omega), show (m * 10 + d) / 10 = m by omega, show (m * 10 + d) % 10 = d by omega, ← e1]
          exact ⟨rfl, by omega⟩

/-! ### Nine digits at a time -/
/-- Nine digits of a number below 10^9. -/
def pad9 (r : Nat) : List UInt8 := (decDigits (1000000000 + r)).tail

theorem dec_len_bill {r : Nat} (h : r < 1000000000) : (decDigits (1000000000 + r)).length = 10 := by
  rw [decDigits_length]; exact nDigits_unique 9 _ (by omega) (by omega)

theorem pad9_len {r : Nat} (h : r < 1000000000) : (pad9 r).length = 9 := by unfold pad9; rw [List.length_tail, dec_len_bill h]

theorem pad9_val {r : Nat} (h : r < 1000000000) (q : Nat) : decFrom q (pad9 r) = some (q * 1000000000 + r) := by
  have hl := dec_len_bill h
  have hv := decFrom_dec (1000000000 + r)
  unfold pad9
  cases hc : decDigits (1000000000 + r) with
  | nil => rw [hc] at hl; simp at hl
  | cons b t =>
    rw [hc] at hl hv
    simp only [List.length_cons, Nat.reduceEqDiff] at hl
    simp only [decFrom] at hv
    cases hb : digitVal b with
    | none => rw [hb] at hv; cases hv
    | some d =>
      rw [hb] at hv
      dsimp only at hv
      obtain ⟨v, hv0⟩ : ∃ v, decFrom 0 t = some v := by
        cases ht : decFrom 0 t with
        | some v => exact ⟨v, rfl⟩
        | none =>
          exfalso
          have key : ∀ (l : List UInt8) (a : Nat), decFrom a l = none → ∀ c, decFrom c l = none := by
            intro l
            induction l with
            | nil => intro a ha; simp [decFrom] at ha
            | cons x l ih =>
              intro a ha c
              simp only [decFrom] at ha ⊢
              cases hx : digitVal x with
              | none => rfl
              | some e => rw [hx] at ha; exact ih _ ha _
          rw [key t 0 ht] at hv; cases hv
      have hlt := decFrom_lt t 0 v hv0
      have h1 := decFrom_shift t (0 * 10 + d) v hv0
      rw [hv] at h1
      simp only [Option.some.injEq] at h1
      rw [hl] at h1 hlt
      have hd1 : d = 1 := by omega
      subst hd1
      simp only [List.tail_cons]
      rw [decFrom_shift t q v hv0, hl]
      simp; omega

/-- The digits of a number that is written nine digits at a time. -/
theorem trim_digits (J : List UInt8) (N : Nat) (h : decFrom 0 J = some N) :
    (if trimLeftB J 48 = [] then [48] else trimLeftB J 48) = decDigits N := by
  have key : ∀ J : List UInt8, decFrom 0 J = some N → decFrom 0 (trimLeftB J 48) = some N ∧ (trimLeftB J 48).head? ≠ some 48 := by
    intro J
    induction J with
    | nil => intro h; exact ⟨h, by simp [trimLeftB]⟩
    | cons b t ih =>
      intro h
      by_cases hb : b = 48
      · subst hb
        have : trimLeftB (48 :: t) 48 = trimLeftB t 48 := by simp [trimLeftB]
        rw [this]
        refine ih ?_
        simpa [decFrom, digitVal] using h
      · have : trimLeftB (b :: t) 48 = b :: t := by simp [trimLeftB, List.dropWhile_cons, hb]
        rw [this]
        exact ⟨h, by simpa using hb⟩
  obtain ⟨h1, h2⟩ := key J h
  by_cases h0 : trimLeftB J 48 = []
  · rw [if_pos h0]
    rw [h0] at h1
    simp [decFrom] at h1
    subst h1
    rw [decDigits_one (by decide)]; rfl
  · rw [if_neg h0]
    exact (dec_unique _ h0 h2 N h1).1

/-! ### Texts of numbers -/
/-- Decimal digits of a number in a text. -/
def okDec (l : List UInt8) : Bool := !l.isEmpty && decide (l.length ≤ 2000) && (decide (l = [48]) || decide (l.head? ≠ some 48)) && (decFrom 0 l).isSome
/-- Their number. -/
def valDec (l : List UInt8) : Nat := (decFrom 0 l).getD 0

/-- What stands before the first '/' and behind it. -/
def cutSl (l : List UInt8) : List UInt8 × List UInt8 := if 47 ∈ l then (l.takeWhile (· ≠ 47), (l.dropWhile (· ≠ 47)).tail) else (l, [49])

/-- The text of a rational. -/
def fmtQ (q : Rat) : List UInt8 := (if q.num < 0 then [45] else []) ++ decDigits q.num.natAbs ++ (if q.den = 1 then [] else 47 :: decDigits q.den)

/-- A text without its sign. -/
def noSign (l : List UInt8) : List UInt8 := if l.head? = some 45 then l.tail else l
def isNeg (l : List UInt8) : Bool := decide (l.head? = some 45)

/-- Is a text a rational's? -/
def parseOk (l : List UInt8) : Bool := okDec (cutSl (noSign l)).1 && okDec (cutSl (noSign l)).2 && decide ((cutSl (noSign l)).2 ≠ [48])
/-- Its number. -/
def parseQ (l : List UInt8) : Rat := if parseOk l then mkRat (sgn (isNeg l) (valDec (cutSl (noSign l)).1)) (valDec (cutSl (noSign l)).2) else 0

theorem dec_mem (n : Nat) : ∀ b ∈ decDigits n, 48 ≤ b.toNat ∧ b.toNat ≤ 57 := by
  intro b hb
  obtain ⟨k, hk⟩ := List.getElem?_of_mem hb
  obtain ⟨d, hd⟩ := digit_of_decFrom _ _ _ (decFrom_dec n) k b hk
  obtain ⟨h1, h2, _⟩ := digitVal_eq hd
  exact ⟨h1, h2⟩

theorem okDec_dec {n : Nat} (h : (decDigits n).length ≤ 2000) : okDec (decDigits n) = true := by
  unfold okDec
  have h1 : (decDigits n).isEmpty = false := by simpa using dec_ne n
  rw [h1, decide_eq_true h, decFrom_dec]
  by_cases h0 : n = 0
  · subst h0; rw [decDigits_one (by decide)]; rfl
  · rw [decide_eq_true (dec_head n (by omega))]; simp

theorem valDec_dec (n : Nat) : valDec (decDigits n) = n := by unfold valDec; rw [decFrom_dec]; rfl

theorem dec_no {n : Nat} {c : UInt8} (h : c.toNat < 48) : c ∉ decDigits n := fun hm => by have := (dec_mem n c hm).1; omega

theorem cutSl_fmt (a : Nat) (r : List UInt8) : cutSl (decDigits a ++ 47 :: r) = (decDigits a, r) := by
  unfold cutSl
  rw [if_pos (by simp)]
  have hp : ∀ x ∈ decDigits a, (decide (x ≠ 47)) = true := fun x hx => decide_eq_true (fun e => dec_no (n := a) (c := 47) (by decide) (e ▸ hx))
  rw [List.takeWhile_append_of_pos hp, List.dropWhile_append_of_pos hp]
  simp

theorem cutSl_no (a : Nat) : cutSl (decDigits a) = (decDigits a, [49]) := by
  unfold cutSl
  rw [if_neg (dec_no (by decide))]

theorem noSign_pos (r : List UInt8) (a : Nat) : noSign (decDigits a ++ r) = decDigits a ++ r ∧ isNeg (decDigits a ++ r) = false := by
  have h : (decDigits a ++ r).head? ≠ some 45 := by
    rw [head_app (dec_ne _)]
    intro e
    exact dec_no (n := a) (c := 45) (by decide) (List.mem_of_mem_head? (by rw [e]; rfl))
  exact ⟨by unfold noSign; rw [if_neg h], decide_eq_false h⟩

theorem parse_fmt (q : Rat) (h1 : (decDigits q.num.natAbs).length ≤ 2000) (h2 : (decDigits q.den).length ≤ 2000) : parseOk (fmtQ q) = true ∧ parseQ (fmtQ q) = q := by
  have hs : noSign (fmtQ q) = decDigits q.num.natAbs ++ (if q.den = 1 then [] else 47 :: decDigits q.den) ∧ isNeg (fmtQ q) = decide (q.num < 0) := by
    unfold fmtQ
    by_cases hn : q.num < 0
    · rw [if_pos hn, decide_eq_true hn]; exact ⟨rfl, rfl⟩
    · rw [if_neg hn, decide_eq_false hn, List.nil_append]; exact noSign_pos _ _
  have hc : ∃ d, cutSl (noSign (fmtQ q)) = (decDigits q.num.natAbs, d) ∧ okDec d = true ∧ d ≠ [48] ∧ valDec d = q.den := by
    rw [hs.1]
    by_cases hd : q.den = 1
    · rw [if_pos hd, List.append_nil, cutSl_no]
      exact ⟨_, rfl, by decide, by decide, by rw [hd]; rfl⟩
    · rw [if_neg hd, cutSl_fmt]
      refine ⟨_, rfl, okDec_dec h2, fun e => ?_, valDec_dec _⟩
      have := dec_head q.den q.den_pos
      rw [e] at this; exact this rfl
  obtain ⟨d, e1, e2, e3, e4⟩ := hc
  have hok : parseOk (fmtQ q) = true := by
    unfold parseOk
    rw [e1, okDec_dec h1, e2, decide_eq_true e3]; rfl
  refine ⟨hok, ?_⟩
  unfold parseQ
  rw [hok, if_pos rfl, e1, hs.2, valDec_dec, e4, sgn_num, mk_num]

/-! ### How the program and the reference ask -/
theorem all_dig (l : List UInt8) (a : Nat) : (decFrom a l).isSome = true ↔ ∀ b ∈ l, 48 ≤ b.toNat ∧ b.toNat ≤ 57 := by
  induction l generalizing a with
  | nil => simp [decFrom]
  | cons b l ih =>
    simp only [decFrom, List.mem_cons, forall_eq_or_imp]
    by_cases h : 48 ≤ b.toNat ∧ b.toNat ≤ 57
    · have : digitVal b = some (b.toNat - 48) := by unfold digitVal; rw [if_pos h]
      rw [this]; simp only [ih, h, true_and, and_self]
    · have : digitVal b = none := by unfold digitVal; rw [if_neg h]
      rw [this]; simp [h]

end Go.Proofs.YtgohfieleckmgaaGreatDoor
