/-
  Joined out of XPpl, XPpm, XPpn, XPsq, XPpq, XPpx.
-/
import Derived.Test.YtgohfieleckmgaaGreatDoorPtx
import Derived.Lib.AtoiAll
import Derived.Lib.IndexMore
import Derived.Lib.SplitLaws
import Derived.Lib.IndexBytes
import Derived.Lib.IndexLaws

/-
  How both packages read a polynomial's text, as functions of lists of bytes; that they read what fmtP writes: plain facts. No condition, no program.
-/
namespace Go.Proofs.YtgohfieleckmgaaGreatDoor
open Go.RowKit Go.Lib
set_option linter.unusedSimpArgs false
set_option linter.unusedVariables false

/-! ### Pieces at a byte -/
def spl (c : UInt8) : List UInt8 → List (List UInt8)
  | [] => [[]]
  | x :: l => if x = c then [] :: spl c l else match spl c l with
    | [] => [[x]]
    | p :: ps => (x :: p) :: ps
theorem spl_ne (c : UInt8) (l : List UInt8) : spl c l ≠ [] := by
  cases l with
  | nil => simp [spl]
  | cons x l =>
    unfold spl
    split
    · simp
    · split <;> simp
theorem spl_plain {c : UInt8} {a : List UInt8} (h : c ∉ a) : spl c a = [a] := by
  induction a with
  | nil => rfl
  | cons x a ih =>
    have h1 : c ∉ a := fun k => h (List.mem_cons_of_mem _ k)
    have h2 : x ≠ c := fun k => h (by rw [k]; exact List.mem_cons_self)
    unfold spl
    rw [if_neg h2, ih h1]
theorem spl_cut {c : UInt8} {a r : List UInt8} (h : c ∉ a) : spl c (a ++ c :: r) = a :: spl c r := by
  induction a with
  | nil => show spl c (c :: r) = _; rw [spl, if_pos rfl]
  | cons x a ih =>
    have h1 : c ∉ a := fun k => h (List.mem_cons_of_mem _ k)
    have h2 : x ≠ c := fun k => h (by rw [k]; exact List.mem_cons_self)
    show spl c (x :: (a ++ c :: r)) = _
    rw [spl, if_neg h2, ih h1]
theorem spl_join {c : UInt8} : ∀ (r : List (List UInt8)) (x : List UInt8), (∀ y ∈ x :: r, c ∉ y) → spl c (join (x :: r) [c]) = x :: r
  | [], x, h => by rw [join_one]; exact spl_plain (h x List.mem_cons_self)
  | y :: r, x, h => by
    have h1 : join (x :: y :: r) [c] = x ++ c :: join (y :: r) [c] := by
      rw [join_cons, join_cons]; simp [joinTail]
    rw [h1, spl_cut (h x List.mem_cons_self), spl_join r y fun z hz => h z (List.mem_cons_of_mem _ hz)]

/-! ### A monomial, as package polynomial reads it -/
/-- A parameter with its exponent. -/
def powR (l : List UInt8) : Option (Nat × Nat) :=
  if (cut l [94]).1.length = 1 ∧ 0 ≤ index [97, 98, 99] (cut l [94]).1 then
    (if (cut l [94]).2.2 then match atoiAll (cut l [94]).2.1 with
      | .ok v => if 0 ≤ v ∧ v ≤ 5 then some ((index [97, 98, 99] (cut l [94]).1).toNat, v.toNat) else none
      | _ => none
    else some ((index [97, 98, 99] (cut l [94]).1).toNat, 1))
  else none
def bump (e : Ex) (i k : Nat) : Ex := if i = 0 then (e.1 + k, e.2.1, e.2.2) else if i = 1 then (e.1, e.2.1 + k, e.2.2) else (e.1, e.2.1, e.2.2 + k)
def readF : List (List UInt8) → Bool → Ex × Rat → Option (Ex × Rat)
  | [], _, m => some m
  | p :: ps, first, m => if parseOk p && first then readF ps false (m.1, parseQ p) else match powR p with
    | none => none
    | some (i, k) => readF ps false (bump m.1 i k, m.2)
/-- A monomial without its sign. -/
def readR (l : List UInt8) : Option (Ex × Rat) := readF (spl 42 l) true ((0, 0, 0), 1)

theorem powR_powT : ∀ (i : Fin 3) (k : Fin 6), k.val ≠ 0 → powR (powT (UInt8.ofNat (97 + i.val)) k.val) = some (i.val, k.val) := by decide +kernel
theorem parse_powT : ∀ (i : Fin 3) (k : Fin 6), k.val ≠ 0 → parseOk (powT (UInt8.ofNat (97 + i.val)) k.val) = false := by decide +kernel
theorem powT_has : ∀ (i : Fin 3) (k : Fin 6), ∀ b ∈ powT (UInt8.ofNat (97 + i.val)) k.val, b ≠ 42 ∧ b ≠ 32 ∧ b ≠ 45 := by decide +kernel
theorem readF_fac (i : Fin 3) (k : Nat) (hk : k ≤ 5) (ps : List (List UInt8)) (first : Bool) (m : Ex × Rat) (hf : first = true → k ≠ 0) :
    readF (facT (UInt8.ofNat (97 + i.val)) k ++ ps) first m = readF ps (if k = 0 then first else false) (bump m.1 i.val k, m.2) := by
  by_cases h0 : k = 0
  · subst h0
    have hff : first = false := by cases first with | false => rfl | true => exact absurd rfl (hf rfl)
    subst hff
    show readF ps false m = _
    rw [if_pos rfl]
    congr 1
    unfold bump
    split
    · rfl
    · split <;> rfl
  · have h1 := powR_powT i ⟨k, by omega⟩ h0
    have h2 := parse_powT i ⟨k, by omega⟩ h0
    simp only at h1 h2
    unfold facT
    rw [if_neg h0, if_neg h0]
    show readF (powT _ k :: ps) first m = _
    rw [readF, h2]
    simp only [Bool.false_and, Bool.false_eq_true, if_false]
    rw [h1]
theorem readF_part (e : Ex) (hd : deg e ≤ 5) (q : Rat) (first : Bool) (hf : first = true → parT e ≠ []) : readF (parT e) first ((0, 0, 0), q) = some (e, q) := by
  obtain ⟨a, b, c⟩ := e
  unfold deg at hd
  simp only at hd
  have key : ∀ (fst : Bool) (m : Ex × Rat), (fst = true → False) → readF (facT 99 c ++ []) fst m = some (bump m.1 2 c, m.2) := fun fst m hfm => by
    have := readF_fac 2 c (by omega) [] fst m (fun h => (hfm h).elim)
    exact this
  have k3 : ∀ (fst : Bool) (m : Ex × Rat), (fst = true → c ≠ 0) → readF (facT 99 c) fst m = some (bump m.1 2 c, m.2) := fun fst m hfm => by
    have := readF_fac 2 c (by omega) [] fst m hfm
    rw [List.append_nil] at this
    exact this
  have k2 : ∀ (fst : Bool) (m : Ex × Rat), (fst = true → b ≠ 0 ∨ c ≠ 0) → readF (facT 98 b ++ facT 99 c) fst m = some (bump (bump m.1 1 b) 2 c, m.2) := fun fst m hfm => by
    by_cases hb : b = 0 ∧ fst = true
    · obtain ⟨hb, hft⟩ := hb
      have hc : c ≠ 0 := by rcases hfm hft with h | h; exact absurd hb h; exact h
      subst hb
      rw [facT, if_pos rfl, List.nil_append, k3 fst m fun _ => hc]
      rfl
    · have := readF_fac 1 b (by omega) (facT 99 c) fst m (fun h h0 => hb ⟨h0, h⟩)
      rw [show facT (UInt8.ofNat (97 + (1 : Fin 3).val)) b = facT 98 b from rfl] at this
      rw [this]
      refine k3 _ _ fun h => ?_
      split at h
      · rename_i h0
        exact absurd ⟨h0, h⟩ hb
      · cases h
  have hfin : bump (bump (bump (0, 0, 0) 0 a) 1 b) 2 c = (a, b, c) := by simp [bump]
  unfold parT
  simp only
  rw [List.append_assoc]
  by_cases ha : a = 0 ∧ first = true
  · obtain ⟨ha, hft⟩ := ha
    subst ha
    have hbc : b ≠ 0 ∨ c ≠ 0 := by
      by_cases hb : b = 0
      · right
        intro hc
        exact hf hft (by subst hb hc; rfl)
      · exact .inl hb
    rw [facT, if_pos rfl, List.nil_append, k2 first _ fun _ => hbc]
    simp [bump]
  · have := readF_fac 0 a (by omega) (facT 98 b ++ facT 99 c) first ((0, 0, 0), q) (fun h h0 => ha ⟨h0, h⟩)
    rw [show facT (UInt8.ofNat (97 + (0 : Fin 3).val)) a = facT 97 a from rfl] at this
    rw [this]
    have h2 := k2 (if a = 0 then first else false) (bump (0, 0, 0) 0 a, q) (fun h => by
      split at h
      · rename_i h0
        exact absurd ⟨h0, h⟩ ha
      · cases h)
    exact h2.trans (by rw [hfin])

/-! ### What stands in the texts -/
theorem fmtQ_mem {q : Rat} (hq : 0 ≤ q.num) : ∀ b ∈ fmtQ q, b ≠ 42 ∧ b ≠ 32 ∧ b ≠ 45 := by
  intro b hb
  unfold fmtQ at hb
  rw [if_neg (by omega), List.nil_append] at hb
  have hdig : ∀ n, b ∈ decDigits n → b ≠ 42 ∧ b ≠ 32 ∧ b ≠ 45 := fun n h => by
    have := dec_mem n b h
    refine ⟨?_, ?_, ?_⟩ <;> (rintro rfl; revert this; decide)
  rcases List.mem_append.1 hb with h | h
  · exact hdig _ h
  · split at h
    · simp at h
    · rcases List.mem_cons.1 h with rfl | h
      · decide
      · exact hdig _ h
theorem absQ_nonneg (q : Rat) : 0 ≤ (absQ q).num := by
  unfold absQ
  split
  · rw [Rat.neg_num]; omega
  · omega
theorem facT_mem (i : Fin 3) {k : Nat} (hk : k ≤ 5) : ∀ y ∈ facT (UInt8.ofNat (97 + i.val)) k, ∀ b ∈ y, b ≠ 42 ∧ b ≠ 32 ∧ b ≠ 45 := by
  intro y hy b hb
  unfold facT at hy
  split at hy
  · simp at hy
  · rw [List.mem_singleton] at hy
    subst hy
    exact powT_has i ⟨k, by omega⟩ b hb
theorem parts_mem {e : Ex} (hd : deg e ≤ 5) (q : Rat) : ∀ y ∈ cofT e (absQ q) ++ parT e, ∀ b ∈ y, b ≠ 42 ∧ b ≠ 32 ∧ b ≠ 45 := by
  obtain ⟨a, b', c⟩ := e
  unfold deg at hd
  simp only at hd
  intro y hy
  rcases List.mem_append.1 hy with h | h
  · unfold cofT at h
    split at h
    · rw [List.mem_singleton] at h
      subst h
      exact fmtQ_mem (absQ_nonneg q)
    · simp at h
  · unfold parT at h
    rcases List.mem_append.1 h with h | h
    · rcases List.mem_append.1 h with h | h
      · exact facT_mem 0 (by simp only; omega) y h
      · exact facT_mem 1 (by simp only; omega) y h
    · exact facT_mem 2 (by simp only; omega) y h
theorem join_mem {l : List (List UInt8)} {b : UInt8} (h : b ∈ join l [42]) : b = 42 ∨ ∃ y ∈ l, b ∈ y := by
  cases l with
  | nil => simp [join_nil] at h
  | cons x r =>
    rw [join_cons] at h
    rcases List.mem_append.1 h with h | h
    · exact .inr ⟨x, List.mem_cons_self, h⟩
    · unfold joinTail at h
      simp only [List.mem_flatten, List.mem_map] at h
      obtain ⟨z, ⟨y, hy, rfl⟩, hb⟩ := h
      rcases List.mem_append.1 hb with hb | hb
      · exact .inl (by simpa using hb)
      · exact .inr ⟨y, List.mem_cons_of_mem _ hy, hb⟩
/-- No space and no minus sign in a monomial. -/
theorem monT_mem {e : Ex} (hd : deg e ≤ 5) (q : Rat) : ∀ b ∈ monT e q, b ≠ 32 ∧ b ≠ 45 := by
  intro b hb
  rcases join_mem hb with rfl | ⟨y, hy, hb⟩
  · decide
  · exact (parts_mem hd q y hy b hb).2
theorem monT_parts {e : Ex} (hd : deg e ≤ 5) (q : Rat) : spl 42 (monT e q) = cofT e (absQ q) ++ parT e := by
  have hm := parts_mem hd q
  unfold monT
  cases hp : cofT e (absQ q) ++ parT e with
  | nil =>
    exfalso
    have : monT e q = [] := by unfold monT; rw [hp]; rfl
    exact monT_ne e q this
  | cons x r =>
    rw [hp] at hm
    exact spl_join r x fun y hy h => (hm y hy 42 h).1 rfl
theorem readR_monT {e : Ex} (hd : deg e ≤ 5) (q : Rat) (h1 : (decDigits (absQ q).num.natAbs).length ≤ 2000) (h2 : (decDigits (absQ q).den).length ≤ 2000) : readR (monT e q) = some (e, absQ q) := by
  unfold readR
  rw [monT_parts hd]
  unfold cofT
  by_cases hc : absQ q ≠ 1 ∨ deg e = 0
  · rw [if_pos hc]
    obtain ⟨k1, k2⟩ := parse_fmt (absQ q) h1 h2
    show readF (fmtQ (absQ q) :: parT e) true _ = _
    rw [readF, k1]
    simp only [Bool.and_self, if_true]
    rw [k2]
    exact readF_part e hd _ false (fun h => by cases h)
  · rw [if_neg hc, List.nil_append]
    have hx : absQ q = 1 := Classical.byContradiction fun h => hc (.inl h)
    have hde : deg e ≠ 0 := fun h => hc (.inr h)
    rw [hx]
    refine readF_part e hd 1 true fun _ hp => hde ?_
    obtain ⟨a, b, c⟩ := e
    unfold parT facT at hp
    simp only at hp
    unfold deg
    simp only
    by_cases ha : a = 0 <;> by_cases hb : b = 0 <;> by_cases hcc : c = 0 <;> simp [ha, hb, hcc] at hp ⊢
end Go.Proofs.YtgohfieleckmgaaGreatDoor

/-
  How package polynomial and the reference read a whole polynomial's text: plain facts. No condition, no program.
-/
namespace Go.Proofs.YtgohfieleckmgaaGreatDoor
open Go.RowKit Go.Lib
set_option linter.unusedSimpArgs false
set_option linter.unusedVariables false

/-! ### Words up to a space -/
def upW (l : List UInt8) : List UInt8 := l.takeWhile (· != 32)
def dnW (l : List UInt8) : List UInt8 := l.dropWhile (· != 32)
theorem upW_end {a : List UInt8} (h : ∀ b ∈ a, b ≠ 32) : upW a = a ∧ dnW a = [] := by
  unfold upW dnW
  induction a with
  | nil => exact ⟨rfl, rfl⟩
  | cons x a ih =>
    have h1 : (x != 32) = true := by simpa using h x List.mem_cons_self
    obtain ⟨i1, i2⟩ := ih fun b hb => h b (List.mem_cons_of_mem _ hb)
    rw [List.takeWhile_cons, List.dropWhile_cons, h1]
    exact ⟨by simp only [if_true]; rw [i1], by simp only [if_true]; exact i2⟩
theorem upW_cut {a r : List UInt8} (h : ∀ b ∈ a, b ≠ 32) : upW (a ++ 32 :: r) = a ∧ dnW (a ++ 32 :: r) = 32 :: r := by
  have h' : ∀ b ∈ a, (b != 32) = true := fun b hb => by simpa using h b hb
  constructor
  · unfold upW
    rw [List.takeWhile_append_of_pos h']
    simp
  · unfold dnW
    rw [List.dropWhile_append_of_pos h']
    simp

/-! ### The package -/
def sgnQ (minus : Bool) (q : Rat) : Rat := if minus then -q else q
theorem sgnQ_abs (q : Rat) : sgnQ (decide (q.num < 0)) (absQ q) = q := by
  unfold sgnQ absQ
  by_cases h : q.num < 0
  · simp only [h, decide_true, if_true]; exact Rat.neg_neg _
  · simp [h]
/-- What stands behind a word: the end, or a sign. -/
inductive Beh where
  | fin
  | go (minus : Bool) (r : List UInt8)
  | bad
def behR : List UInt8 → Beh
  | [] => .fin
  | l => if l.take 3 = [32, 45, 32] then .go true (l.drop 3) else if l.take 3 = [32, 43, 32] then .go false (l.drop 3) else .bad
def sumR : Nat → List UInt8 → Bool → Pl → Option Pl
  | 0, _, _, _ => none
  | f + 1, rest, minus, S => match readR (upW rest) with
    | none => none
    | some (e, q) => match behR (dnW rest) with
      | .fin => some (addP S (monoP e (sgnQ minus q)))
      | .go minus' r => sumR f r minus' (addP S (monoP e (sgnQ minus q)))
      | .bad => none
/-- The package's reading, but for the last test. -/
def progR (l : List UInt8) : Option Pl := sumR (l.length + 1) (noSign l) (isNeg l) (fun _ => 0)

def shortL (l : List Mn) : Prop := ∀ m ∈ l, deg m.1 ≤ 5 ∧ (decDigits (absQ m.2).num.natAbs).length ≤ 2000 ∧ (decDigits (absQ m.2).den).length ≤ 2000
def foldP (S : Pl) (l : List Mn) : Pl := l.foldl (fun S m => addP S (monoP m.1 m.2)) S
theorem foldP_cof : ∀ (l : List Mn) (S : Pl), EqP (foldP S l) (addP S (cof l))
  | [], S => fun e _ => by show S e = S e + cof [] e; rw [cof_nil]; grind
  | m :: l, S => fun e he => by
    show foldP (addP S (monoP m.1 m.2)) l e = S e + cof (m :: l) e
    rw [foldP_cof l _ e he, cof_cons]
    show (S e + monoP m.1 m.2 e) + cof l e = _
    unfold monoP
    by_cases hm : m.1 = e
    · rw [if_pos hm, if_pos hm.symm]; grind
    · rw [if_neg hm, if_neg fun k => hm k.symm]; grind

theorem sumR_txt : ∀ (l : List Mn) (m : Mn) (f : Nat) (S : Pl), shortL (m :: l) → l.length < f →
    sumR f (monT m.1 m.2 ++ (l.map (oneT false)).flatten) (decide (m.2.num < 0)) S = some (foldP S (m :: l))
  | l, m, 0, S, _, hf => absurd hf (by omega)
  | [], m, f + 1, S, hs, _ => by
    obtain ⟨h1, h2, h3⟩ := hs m List.mem_cons_self
    have hw := upW_end fun b hb => (monT_mem h1 m.2 b hb).1
    show sumR (f + 1) (monT m.1 m.2 ++ []) _ S = _
    rw [List.append_nil, sumR, hw.1, hw.2, readR_monT h1 m.2 h2 h3]
    show some (addP S (monoP m.1 (sgnQ _ (absQ m.2)))) = _
    rw [sgnQ_abs]
    rfl
  | n :: l, m, f + 1, S, hs, hf => by
    obtain ⟨h1, h2, h3⟩ := hs m List.mem_cons_self
    have ih := sumR_txt l n f (addP S (monoP m.1 m.2)) (fun x hx => hs x (List.mem_cons_of_mem _ hx)) (by simp only [List.length_cons] at hf; omega)
    have hsig : ∃ s, s ≠ 32 ∧ ((n :: l).map (oneT false)).flatten = 32 :: s :: 32 :: (monT n.1 n.2 ++ (l.map (oneT false)).flatten) ∧ s = (if decide (n.2.num < 0) then (45 : UInt8) else 43) := by
      refine ⟨_, ?_, ?_, rfl⟩
      · split <;> decide
      · simp only [List.map_cons, List.flatten_cons, oneT, sigT]
        cases decide (n.2.num < 0) <;> simp
    obtain ⟨s, -, hs2, hs3⟩ := hsig
    rw [hs2]
    have hw := upW_cut (r := s :: 32 :: (monT n.1 n.2 ++ (l.map (oneT false)).flatten)) fun b hb => (monT_mem h1 m.2 b hb).1
    rw [sumR, hw.1, hw.2, readR_monT h1 m.2 h2 h3]
    simp only
    rw [sgnQ_abs]
    have hb : behR (32 :: s :: 32 :: (monT n.1 n.2 ++ (l.map (oneT false)).flatten)) = .go (decide (n.2.num < 0)) (monT n.1 n.2 ++ (l.map (oneT false)).flatten) := by
      rw [hs3]
      cases decide (n.2.num < 0) <;> rfl
    rw [hb]
    exact ih

/-- The package reads what Format has written. -/
theorem progR_fmtP (P : Pl) (h : shortL (lst P)) : ∃ P', progR (fmtP P) = some P' ∧ EqP P' P := by
  unfold fmtP
  by_cases h0 : lst P = []
  · rw [if_pos h0]
    refine ⟨addP (fun _ => 0) (monoP (0, 0, 0) (sgnQ false 0)), ?_, fun e he => ?_⟩
    · unfold progR
      have : readR [48] = some ((0, 0, 0), 0) := by
        have h1 : parseOk [48] = true := by decide +kernel
        have h2 : parseQ [48] = 0 := by decide +kernel
        show readF [[48]] true _ = _
        rw [readF, h1, h2]
        rfl
      show sumR 2 [48] false _ = _
      rw [sumR, show upW [48] = [48] from rfl, this]
      rfl
    · have : cof (lst P) e = P e := cof_lst P e he
      rw [← this, h0, cof_nil]
      show 0 + monoP (0, 0, 0) (sgnQ false 0) e = 0
      unfold monoP sgnQ
      split <;> decide +kernel
  · rw [if_neg h0]
    obtain ⟨m, l, hl⟩ : ∃ m l, lst P = m :: l := by
      cases hh : lst P with
      | nil => exact absurd hh h0
      | cons m l => exact ⟨m, l, rfl⟩
    rw [hl] at h
    have hh := h m List.mem_cons_self
    refine ⟨foldP (fun _ => 0) (lst P), ?_, fun e he => ?_⟩
    · rw [hl]
      have hlen : l.length < (txtL (m :: l)).length + 1 := by
        have : ∀ l : List Mn, l.length ≤ ((l.map (oneT false)).flatten).length := by
          intro l
          induction l with
          | nil => simp
          | cons x l ih =>
            simp only [List.map_cons, List.flatten_cons, List.length_append, List.length_cons]
            have : 1 ≤ (oneT false x).length := by
              unfold oneT sigT
              simp only [Bool.false_eq_true, if_false]
              split <;> simp <;> omega
            omega
        have := this l
        unfold txtL
        rw [List.length_append]
        omega
      have hsn : noSign (txtL (m :: l)) = monT m.1 m.2 ++ (l.map (oneT false)).flatten ∧ isNeg (txtL (m :: l)) = decide (m.2.num < 0) := by
        unfold txtL oneT sigT
        simp only [if_true]
        by_cases hn : m.2.num < 0
        · simp [hn, noSign, isNeg]
        · have hne : ¬ (monT m.1 m.2 ++ (l.map (oneT false)).flatten).head? = some 45 := by
            intro k
            cases hm : monT m.1 m.2 with
            | nil => exact monT_ne _ _ hm
            | cons x r =>
              rw [hm] at k
              have hx : x = 45 := by simpa using k
              exact (monT_mem hh.1 m.2 45 (by rw [hm, hx]; exact List.mem_cons_self)).2 rfl
          rw [decide_eq_false hn]
          simp only [Bool.false_eq_true, if_false, List.nil_append]
          exact ⟨if_neg hne, decide_eq_false hne⟩
      unfold progR
      rw [hsn.1, hsn.2]
      exact sumR_txt l m _ _ h hlen
    · rw [foldP_cof _ _ e he]
      show 0 + cof (lst P) e = P e
      rw [cof_lst P e he]
      grind

/-! ### The reference -/
def pcs : List UInt8 → List UInt8 → List (List UInt8)
  | [], cur => [cur]
  | x :: r, cur => if (x :: r).take 3 = [32, 43, 32] then cur :: pcs (r.drop 2) [] else if (x :: r).take 3 = [32, 45, 32] then cur :: pcs (r.drop 2) [45] else pcs r (cur ++ [x])
termination_by l => l.length
decreasing_by all_goals simp [List.length_drop]; try omega
def piecesR : List UInt8 → List (List UInt8)
  | [] => [[]]
  | x :: r => pcs r [x]
def refPow (p : List UInt8) : Option (Nat × Nat) := match p with
  | [c] => if 97 ≤ c.toNat ∧ c.toNat < 100 then some (c.toNat - 97, 1) else none
  | [c, x, d] => if 97 ≤ c.toNat ∧ c.toNat < 100 ∧ x = 94 ∧ 50 ≤ d.toNat ∧ d.toNat ≤ 53 then some (c.toNat - 97, d.toNat - 48) else none
  | _ => none
def refF : List (List UInt8) → Bool → Ex × Rat → Option (Ex × Rat)
  | [], first, m => if first then none else some m
  | [[]], first, m => if first then none else some m
  | p :: ps, first, m => match refPow p with
    | some (i, k) => refF ps false (bump m.1 i k, m.2)
    | none => if first && parseOk p then refF ps false (m.1, parseQ p) else none
def refM (l : List UInt8) : Option (Ex × Rat) := match refF (spl 42 (noSign l)) true ((0, 0, 0), 1) with
  | none => none
  | some (e, q) => some (e, sgnQ (isNeg l) q)
def refL : List (List UInt8) → Pl → Option Pl
  | [], S => some S
  | p :: ps, S => match refM p with
    | none => none
    | some (e, q) => refL ps (addP S (monoP e q))
def refR (l : List UInt8) : Option Pl := refL (piecesR l) (fun _ => 0)

theorem refPow_powT : ∀ (i : Fin 3) (k : Fin 6), k.val ≠ 0 → refPow (powT (UInt8.ofNat (97 + i.val)) k.val) = some (i.val, k.val) := by decide +kernel
theorem refF_cons {p : List UInt8} (hp : p ≠ []) (ps : List (List UInt8)) (first : Bool) (m : Ex × Rat) :
    refF (p :: ps) first m = match refPow p with
    | some (i, k) => refF ps false (bump m.1 i k, m.2)
    | none => if first && parseOk p then refF ps false (m.1, parseQ p) else none := by
  cases p with
  | nil => exact absurd rfl hp
  | cons x r => rw [refF]; intro h; cases h
theorem refF_fac (i : Fin 3) (k : Nat) (hk : k ≤ 5) (ps : List (List UInt8)) (first : Bool) (m : Ex × Rat) (hf : first = true → k ≠ 0) :
    refF (facT (UInt8.ofNat (97 + i.val)) k ++ ps) first m = refF ps (if k = 0 then first else false) (bump m.1 i.val k, m.2) := by
  by_cases h0 : k = 0
  · subst h0
    have hff : first = false := by cases first with | false => rfl | true => exact absurd rfl (hf rfl)
    subst hff
    show refF ps false m = _
    rw [if_pos rfl]
    congr 1
    unfold bump
    split
    · rfl
    · split <;> rfl
  · have h1 := refPow_powT i ⟨k, by omega⟩ h0
    simp only at h1
    unfold facT
    rw [if_neg h0, if_neg h0]
    show refF (powT _ k :: ps) first m = _
    rw [refF_cons (powT_ne _ _), h1]
theorem refF_part (e : Ex) (hd : deg e ≤ 5) (q : Rat) (first : Bool) (hf : first = true → parT e ≠ []) : refF (parT e) first ((0, 0, 0), q) = some (e, q) := by
  obtain ⟨a, b, c⟩ := e
  unfold deg at hd
  simp only at hd
  have k3 : ∀ (fst : Bool) (m : Ex × Rat), (fst = true → c ≠ 0) → refF (facT 99 c) fst m = some (bump m.1 2 c, m.2) := fun fst m hfm => by
    have := refF_fac 2 c (by omega) [] fst m hfm
    rw [List.append_nil] at this
    rw [show facT (UInt8.ofNat (97 + (2 : Fin 3).val)) c = facT 99 c from rfl] at this
    rw [this, refF]
    by_cases hc : c = 0
    · have : fst = false := by cases fst with | false => rfl | true => exact absurd hc (hfm rfl)
      rw [if_pos hc, this]; rfl
    · rw [if_neg hc]; rfl
  have k2 : ∀ (fst : Bool) (m : Ex × Rat), (fst = true → b ≠ 0 ∨ c ≠ 0) → refF (facT 98 b ++ facT 99 c) fst m = some (bump (bump m.1 1 b) 2 c, m.2) := fun fst m hfm => by
    by_cases hb : b = 0 ∧ fst = true
    · obtain ⟨hb, hft⟩ := hb
      have hc : c ≠ 0 := by rcases hfm hft with h | h; exact absurd hb h; exact h
      subst hb
      rw [facT, if_pos rfl, List.nil_append, k3 fst m fun _ => hc]
      rfl
    · have := refF_fac 1 b (by omega) (facT 99 c) fst m (fun h h0 => hb ⟨h0, h⟩)
      rw [show facT (UInt8.ofNat (97 + (1 : Fin 3).val)) b = facT 98 b from rfl] at this
      rw [this]
      refine k3 _ _ fun h => ?_
      split at h
      · rename_i h0
        exact absurd ⟨h0, h⟩ hb
      · cases h
  have hfin : bump (bump (bump (0, 0, 0) 0 a) 1 b) 2 c = (a, b, c) := by simp [bump]
  unfold parT
  simp only
  rw [List.append_assoc]
  by_cases ha : a = 0 ∧ first = true
  · obtain ⟨ha, hft⟩ := ha
    subst ha
    have hbc : b ≠ 0 ∨ c ≠ 0 := by
      by_cases hb : b = 0
      · right
        intro hc
        exact hf hft (by subst hb hc; rfl)
      · exact .inl hb
    rw [facT, if_pos rfl, List.nil_append, k2 first _ fun _ => hbc]
    simp [bump]
  · have := refF_fac 0 a (by omega) (facT 98 b ++ facT 99 c) first ((0, 0, 0), q) (fun h h0 => ha ⟨h0, h⟩)
    rw [show facT (UInt8.ofNat (97 + (0 : Fin 3).val)) a = facT 97 a from rfl] at this
    rw [this]
    have h2 := k2 (if a = 0 then first else false) (bump (0, 0, 0) 0 a, q) (fun h => by
      split at h
      · rename_i h0
        exact absurd ⟨h0, h⟩ ha
      · cases h)
    exact h2.trans (by rw [hfin])
theorem refPow_fmt {q : Rat} (hq : 0 ≤ q.num) : refPow (fmtQ q) = none := by
  have hh : ∃ x r, fmtQ q = x :: r ∧ x.toNat ≤ 57 := by
    unfold fmtQ
    rw [if_neg (by omega), List.nil_append]
    cases hd : decDigits q.num.natAbs with
    | nil => exact absurd hd (dec_ne _)
    | cons x r => exact ⟨x, _, rfl, (dec_mem q.num.natAbs x (by rw [hd]; exact List.mem_cons_self)).2⟩
  obtain ⟨x, r, hx, hn⟩ := hh
  rw [hx]
  unfold refPow
  split
  · rename_i c h
    have := (List.cons.inj h).1
    rw [if_neg]
    rw [← this]; omega
  · rename_i c y d h
    have := (List.cons.inj h).1
    rw [if_neg]
    rw [← this]; omega
  · rfl
theorem refF_monT {e : Ex} (hd : deg e ≤ 5) (q : Rat) (h1 : (decDigits (absQ q).num.natAbs).length ≤ 2000) (h2 : (decDigits (absQ q).den).length ≤ 2000) : refF (spl 42 (monT e q)) true ((0, 0, 0), 1) = some (e, absQ q) := by
  rw [monT_parts hd]
  unfold cofT
  by_cases hc : absQ q ≠ 1 ∨ deg e = 0
  · rw [if_pos hc]
    obtain ⟨k1, k2⟩ := parse_fmt (absQ q) h1 h2
    show refF (fmtQ (absQ q) :: parT e) true _ = _
    rw [refF_cons (fmtQ_ne _), refPow_fmt (absQ_nonneg q), k1, k2]
    exact refF_part e hd _ false (fun h => by cases h)
  · rw [if_neg hc, List.nil_append]
    have hx : absQ q = 1 := Classical.byContradiction fun h => hc (.inl h)
    have hde : deg e ≠ 0 := fun h => hc (.inr h)
    rw [hx]
    refine refF_part e hd 1 true fun _ hp => hde ?_
    obtain ⟨a, b, c⟩ := e
    unfold parT facT at hp
    simp only at hp
    unfold deg
    simp only
    by_cases ha : a = 0 <;> by_cases hb : b = 0 <;> by_cases hcc : c = 0 <;> simp [ha, hb, hcc] at hp ⊢
/-- A piece of the text of a polynomial, as the reference cuts it. -/
def pieT (m : Mn) : List UInt8 := (if m.2.num < 0 then [45] else []) ++ monT m.1 m.2
theorem monT_head {e : Ex} (hd : deg e ≤ 5) (q : Rat) (r : List UInt8) : ¬ (monT e q ++ r).head? = some 45 := by
  intro k
  cases hm : monT e q with
  | nil => exact monT_ne _ _ hm
  | cons x t =>
    rw [hm] at k
    have hx : x = 45 := by simpa using k
    exact (monT_mem hd q 45 (by rw [hm, hx]; exact List.mem_cons_self)).2 rfl
theorem refM_pieT {m : Mn} (hd : deg m.1 ≤ 5) (h1 : (decDigits (absQ m.2).num.natAbs).length ≤ 2000) (h2 : (decDigits (absQ m.2).den).length ≤ 2000) : refM (pieT m) = some m := by
  have hs : noSign (pieT m) = monT m.1 m.2 ∧ isNeg (pieT m) = decide (m.2.num < 0) := by
    unfold pieT
    by_cases hn : m.2.num < 0
    · rw [if_pos hn, decide_eq_true hn]; exact ⟨rfl, rfl⟩
    · rw [if_neg hn, decide_eq_false hn, List.nil_append]
      have := monT_head hd m.2 []
      rw [List.append_nil] at this
      exact ⟨if_neg this, decide_eq_false this⟩
  unfold refM
  rw [hs.1, hs.2, refF_monT hd m.2 h1 h2]
  show some (m.1, sgnQ _ (absQ m.2)) = _
  rw [sgnQ_abs]
theorem pcs_app {a : List UInt8} (h : ∀ b ∈ a, b ≠ 32) (r cur : List UInt8) : pcs (a ++ r) cur = pcs r (cur ++ a) := by
  induction a generalizing cur with
  | nil => rw [List.nil_append, List.append_nil]
  | cons x a ih =>
    have h1 := h x List.mem_cons_self
    show pcs (x :: (a ++ r)) cur = _
    rw [pcs, if_neg, if_neg, ih fun b hb => h b (List.mem_cons_of_mem _ hb)]
    · rw [List.append_assoc]; rfl
    · intro k; exact h1 (by simpa using (List.cons.inj k).1)
    · intro k; exact h1 (by simpa using (List.cons.inj k).1)
theorem pcs_flat : ∀ (l : List Mn), (∀ m ∈ l, deg m.1 ≤ 5) → ∀ (a cur : List UInt8), (∀ b ∈ a, b ≠ 32) → pcs (a ++ (l.map (oneT false)).flatten) cur = (cur ++ a) :: l.map pieT
  | [], _, a, cur, h => by
    rw [pcs_app h]
    show pcs [] _ = _
    rw [pcs]
    rfl
  | m :: l, hl, a, cur, h => by
    rw [pcs_app h]
    have hm := hl m List.mem_cons_self
    have ih := pcs_flat l (fun x hx => hl x (List.mem_cons_of_mem _ hx)) (monT m.1 m.2) (if m.2.num < 0 then [45] else []) fun b hb => (monT_mem hm m.2 b hb).1
    have hs : ((m :: l).map (oneT false)).flatten = 32 :: (if m.2.num < 0 then (45 : UInt8) else 43) :: 32 :: (monT m.1 m.2 ++ (l.map (oneT false)).flatten) := by
      simp only [List.map_cons, List.flatten_cons, oneT, sigT]
      by_cases hn : m.2.num < 0 <;> simp [hn]
    rw [hs]
    by_cases hn : m.2.num < 0
    · rw [if_pos hn] at ih ⊢
      rw [pcs, if_neg (by simp), if_pos (by simp)]
      show _ :: pcs (monT m.1 m.2 ++ (l.map (oneT false)).flatten) [45] = _
      rw [ih]
      show _ = _ :: (pieT m :: l.map pieT)
      unfold pieT
      rw [if_pos hn]
    · rw [if_neg hn] at ih ⊢
      rw [pcs, if_pos (by simp)]
      show _ :: pcs (monT m.1 m.2 ++ (l.map (oneT false)).flatten) [] = _
      rw [ih]
      show _ = _ :: (pieT m :: l.map pieT)
      unfold pieT
      rw [if_neg hn]
theorem piecesR_txt (m : Mn) (l : List Mn) (h : ∀ n ∈ m :: l, deg n.1 ≤ 5) : piecesR (txtL (m :: l)) = pieT m :: l.map pieT := by
  have hm := h m List.mem_cons_self
  have key := pcs_flat l fun x hx => h x (List.mem_cons_of_mem _ hx)
  have hmm : ∀ b ∈ monT m.1 m.2, b ≠ 32 := fun b hb => (monT_mem hm m.2 b hb).1
  have ht : txtL (m :: l) = (pieT m) ++ (l.map (oneT false)).flatten := by
    show oneT true m ++ _ = _
    congr 1
    unfold oneT sigT pieT
    by_cases hn : m.2.num < 0 <;> simp [hn]
  rw [ht]
  by_cases hn : m.2.num < 0
  · have hp : pieT m = 45 :: monT m.1 m.2 := by unfold pieT; rw [if_pos hn]; rfl
    rw [hp]
    show pcs (monT m.1 m.2 ++ _) [45] = _
    rw [key _ _ hmm]
    rfl
  · have hp : pieT m = monT m.1 m.2 := by unfold pieT; rw [if_neg hn]; rfl
    rw [hp]
    cases hc : monT m.1 m.2 with
    | nil => exact absurd hc (monT_ne _ _)
    | cons x t =>
      rw [hc] at hmm
      show pcs (t ++ _) [x] = _
      rw [key t [x] fun b hb => hmm b (List.mem_cons_of_mem _ hb)]
      rfl
theorem refL_txt : ∀ (l : List Mn) (S : Pl), shortL l → refL (l.map pieT) S = some (foldP S l)
  | [], S, _ => rfl
  | m :: l, S, h => by
    obtain ⟨h1, h2, h3⟩ := h m List.mem_cons_self
    show refL (pieT m :: l.map pieT) S = _
    rw [refL, refM_pieT h1 h2 h3]
    exact refL_txt l _ fun x hx => h x (List.mem_cons_of_mem _ hx)
/-- The reference reads what Format has written. -/
theorem refR_fmtP (P : Pl) (h : shortL (lst P)) : ∃ P', refR (fmtP P) = some P' ∧ EqP P' P := by
  unfold fmtP
  by_cases h0 : lst P = []
  · rw [if_pos h0]
    refine ⟨addP (fun _ => 0) (monoP (0, 0, 0) (sgnQ false 0)), ?_, fun e he => ?_⟩
    · have hM : refM [48] = some ((0, 0, 0), sgnQ false 0) := by
        have h1 : parseOk [48] = true := by decide +kernel
        have h2 : parseQ [48] = 0 := by decide +kernel
        have h3 : refF [[48]] true ((0, 0, 0), 1) = some ((0, 0, 0), 0) := by
          rw [refF_cons (by simp), h1, h2]
          rfl
        show (match refF [[48]] true ((0, 0, 0), 1) with | none => none | some (e, q) => some (e, sgnQ false q)) = _
        rw [h3]
      have hP : piecesR [48] = [[48]] := by
        show pcs [] [48] = _
        rw [pcs]
      unfold refR
      rw [hP, refL, hM]
      rfl
    · have : cof (lst P) e = P e := cof_lst P e he
      rw [← this, h0, cof_nil]
      show 0 + monoP (0, 0, 0) (sgnQ false 0) e = 0
      unfold monoP sgnQ
      split <;> decide +kernel
  · rw [if_neg h0]
    obtain ⟨m, l, hl⟩ : ∃ m l, lst P = m :: l := by
      cases hh : lst P with
      | nil => exact absurd hh h0
      | cons m l => exact ⟨m, l, rfl⟩
    refine ⟨foldP (fun _ => 0) (lst P), ?_, fun e he => ?_⟩
    · unfold refR
      rw [hl, piecesR_txt m l fun n hn => (h n (hl ▸ hn)).1]
      exact refL_txt (m :: l) _ (hl ▸ h)
    · rw [foldP_cof _ _ e he]
      show 0 + cof (lst P) e = P e
      rw [cof_lst P e he]
      grind
end Go.Proofs.YtgohfieleckmgaaGreatDoor

/-
  Sizes of what is read out of a polynomial's text; both parsers agree: plain facts. No condition, no program.
-/
namespace Go.Proofs.YtgohfieleckmgaaGreatDoor
open Go.RowKit Go.Lib
set_option linter.unusedSimpArgs false
set_option linter.unusedVariables false

theorem lim_dec16 {v d n : Nat} (h : v < 10 ^ d) (hd : d ≤ 8 * n) : lim v ≤ n := by
  apply lim_le
  have h1 : (10 : Nat) ^ d ≤ 16 ^ (8 * n) := Nat.le_trans (Nat.pow_le_pow_left (by decide) _) (Nat.pow_le_pow_right (by decide) hd)
  have h2 : (16 : Nat) ^ 8 = 4294967296 := rfl
  rw [Nat.pow_mul, h2] at h1
  exact Nat.lt_of_lt_of_le h h1
theorem fit_parseQ (l : List UInt8) : Fit 250 (parseQ l) := by
  have hv : ∀ x, okDec x = true → lim (valDec x) ≤ 250 := fun x hx => by
    obtain ⟨h1, h2⟩ : x.length ≤ 2000 ∧ decFrom 0 x = some (valDec x) := by
      unfold okDec at hx
      simp only [Bool.and_eq_true, decide_eq_true_eq] at hx
      obtain ⟨n, hn⟩ := Option.isSome_iff_exists.1 hx.2
      exact ⟨hx.1.1.2, by unfold valDec; rw [hn]; rfl⟩
    have h3 := decFrom_lt x 0 _ h2
    exact lim_dec16 (n := 250) (by simpa using h3) (by omega)
  unfold parseQ
  split
  · rename_i h
    unfold parseOk at h
    simp only [Bool.and_eq_true] at h
    refine fit_mk ?_ (hv _ h.1.2) (by decide)
    have := hv _ h.1.1
    unfold sgn
    split <;> simpa using this
  · exact fit_zero (by decide)
theorem powR_le {l : List UInt8} {i k : Nat} (h : powR l = some (i, k)) : k ≤ 5 := by
  unfold powR at h
  split at h
  · split at h
    · split at h
      · split at h
        · rename_i hv
          simp only [Option.some.injEq, Prod.mk.injEq] at h
          omega
        · cases h
      · cases h
    · simp only [Option.some.injEq, Prod.mk.injEq] at h
      omega
  · cases h
theorem refPow_le {l : List UInt8} {i k : Nat} (h : refPow l = some (i, k)) : k ≤ 5 := by
  unfold refPow at h
  split at h
  · split at h
    · simp only [Option.some.injEq, Prod.mk.injEq] at h; omega
    · cases h
  · split at h
    · simp only [Option.some.injEq, Prod.mk.injEq] at h; omega
    · cases h
  · cases h
theorem deg_bump (e : Ex) (i k : Nat) : deg (bump e i k) = deg e + k := by
  unfold bump deg
  split
  · simp only; omega
  · split <;> simp only <;> omega
theorem readF_ok : ∀ (ps : List (List UInt8)) (first : Bool) (m : Ex × Rat) (e : Ex) (q : Rat), readF ps first m = some (e, q) → Fit 250 m.2 → deg e ≤ deg m.1 + 5 * ps.length ∧ Fit 250 q
  | [], first, m, e, q, h, hm => by
    simp only [readF, Option.some.injEq] at h
    subst h
    exact ⟨by simp, hm⟩
  | p :: ps, first, m, e, q, h, hm => by
    rw [readF] at h
    split at h
    · obtain ⟨h1, h2⟩ := readF_ok ps false _ e q h (fit_parseQ p)
      exact ⟨by simp only [List.length_cons] at *; omega, h2⟩
    · split at h
      · cases h
      · rename_i i k hp
        obtain ⟨h1, h2⟩ := readF_ok ps false _ e q h hm
        have := powR_le hp
        rw [deg_bump] at h1
        exact ⟨by simp only [List.length_cons] at *; omega, h2⟩
theorem spl_len (c : UInt8) : ∀ l : List UInt8, (spl c l).length ≤ l.length + 1
  | [] => by simp [spl]
  | x :: l => by
    have ih := spl_len c l
    unfold spl
    split
    · simp only [List.length_cons]; omega
    · split
      · rename_i h; exact absurd h (spl_ne c l)
      · rename_i h
        rw [h] at ih
        simp only [List.length_cons] at *
        omega
theorem readR_ok {l : List UInt8} {e : Ex} {q : Rat} (h : readR l = some (e, q)) : deg e ≤ 5 * (l.length + 1) ∧ Fit 250 q := by
  obtain ⟨h1, h2⟩ := readF_ok _ _ _ e q h (fit_one (by decide))
  have := spl_len 42 l
  refine ⟨?_, h2⟩
  have h0 : deg ((0, 0, 0) : Ex) = 0 := rfl
  simp only [h0] at h1
  omega
theorem refF_ok : ∀ (ps : List (List UInt8)) (first : Bool) (m : Ex × Rat) (e : Ex) (q : Rat), refF ps first m = some (e, q) → Fit 250 m.2 → deg e ≤ deg m.1 + 5 * ps.length ∧ Fit 250 q
  | [], first, m, e, q, h, hm => by
    rw [refF] at h
    split at h
    · cases h
    · simp only [Option.some.injEq] at h
      subst h
      exact ⟨by simp, hm⟩
  | p :: ps, first, m, e, q, h, hm => by
    by_cases hp : p = []
    · subst hp
      cases ps with
      | nil =>
        rw [refF] at h
        split at h
        · cases h
        · simp only [Option.some.injEq] at h
          subst h
          exact ⟨by simp, hm⟩
      | cons p' ps =>
        have hh : refF ([] :: p' :: ps) first m = none := by
          rw [refF]
          · rw [show refPow [] = none from rfl, show parseOk [] = false by decide +kernel]
            simp
          · intro _ h; cases h
        rw [hh] at h
        cases h
    · rw [refF_cons hp] at h
      split at h
      · rename_i i k hpp
        obtain ⟨h1, h2⟩ := refF_ok ps false _ e q h hm
        have := refPow_le hpp
        rw [deg_bump] at h1
        exact ⟨by simp only [List.length_cons] at *; omega, h2⟩
      · split at h
        · obtain ⟨h1, h2⟩ := refF_ok ps false _ e q h (fit_parseQ p)
          exact ⟨by simp only [List.length_cons] at *; omega, h2⟩
        · cases h
theorem fit_sgnQ {k : Nat} {q : Rat} (h : Fit k q) (b : Bool) : Fit k (sgnQ b q) := by
  unfold sgnQ
  split
  · exact fit_neg h
  · exact h
theorem refM_ok {l : List UInt8} {e : Ex} {q : Rat} (h : refM l = some (e, q)) : deg e ≤ 5 * (l.length + 1) ∧ Fit 250 q := by
  unfold refM at h
  split at h
  · cases h
  · rename_i e' q' hq
    simp only [Option.some.injEq, Prod.mk.injEq] at h
    obtain ⟨rfl, rfl⟩ := h
    obtain ⟨h1, h2⟩ := refF_ok _ _ _ _ _ hq (fit_one (by decide))
    have h3 := spl_len 42 (noSign l)
    have h4 : (noSign l).length ≤ l.length := by unfold noSign; split <;> simp
    have h0 : deg ((0, 0, 0) : Ex) = 0 := rfl
    simp only [h0] at h1
    exact ⟨by omega, fit_sgnQ h2 _⟩

/-! ### Short texts have short numbers -/
theorem dec_mon (e : Ex) (q : Rat) : (decDigits (absQ q).num.natAbs).length ≤ (monT e q).length ∧ (decDigits (absQ q).den).length ≤ (monT e q).length := by
  have hpos : 1 ≤ (monT e q).length := List.length_pos_iff.2 (monT_ne e q)
  by_cases hc : absQ q ≠ 1 ∨ deg e = 0
  · have h1 : (fmtQ (absQ q)).length ≤ (monT e q).length := by
      unfold monT cofT
      rw [if_pos hc]
      show _ ≤ (join (fmtQ (absQ q) :: parT e) [42]).length
      rw [join_cons, List.length_append]
      omega
    have h2 : (decDigits (absQ q).num.natAbs).length ≤ (fmtQ (absQ q)).length := by
      unfold fmtQ
      simp only [List.length_append]
      omega
    refine ⟨by omega, ?_⟩
    by_cases hd : (absQ q).den = 1
    · rw [hd, show decDigits 1 = [49] by decide +kernel]
      exact hpos
    · have h3 : (decDigits (absQ q).den).length ≤ (fmtQ (absQ q)).length := by
        unfold fmtQ
        rw [if_neg hd]
        simp only [List.length_append, List.length_cons]
        omega
      omega
  · have hx : absQ q = 1 := Classical.byContradiction fun h => hc (.inl h)
    rw [hx]
    rw [show (1 : Rat).num.natAbs = 1 from rfl, show (1 : Rat).den = 1 from rfl, show decDigits 1 = [49] by decide +kernel]
    exact ⟨hpos, hpos⟩
theorem mon_le : ∀ (l : List Mn) (m : Mn), m ∈ l → (monT m.1 m.2).length ≤ ((l.map (oneT false)).flatten).length
  | x :: l, m, h => by
    simp only [List.map_cons, List.flatten_cons, List.length_append]
    rcases List.mem_cons.1 h with rfl | h
    · unfold oneT
      rw [List.length_append]
      omega
    · have := mon_le l m h
      omega
theorem shortL_len {P : Pl} (h : (fmtP P).length ≤ 2000) : shortL (lst P) := by
  intro m hm
  have hd := (lst_at hm).1
  have hk := dec_mon m.1 m.2
  have hl : (monT m.1 m.2).length ≤ (fmtP P).length := by
    unfold fmtP
    rw [if_neg fun h0 => by rw [h0] at hm; cases hm]
    cases hc : lst P with
    | nil => rw [hc] at hm; cases hm
    | cons x l =>
      rw [hc] at hm
      unfold txtL
      rw [List.length_append]
      rcases List.mem_cons.1 hm with rfl | hm
      · unfold oneT
        rw [List.length_append]
        omega
      · have := mon_le l m hm
        omega
  exact ⟨hd, by omega, by omega⟩

/-! ### Both -/
def okP (l : List UInt8) (o : Option Pl) : Option Pl := match o with
  | none => none
  | some S => if fmtP S = l then some S else none
theorem okP_some {l : List UInt8} {o : Option Pl} {S : Pl} (h : okP l o = some S) : o = some S ∧ fmtP S = l := by
  unfold okP at h
  split at h
  · cases h
  · split at h
    · rename_i h1
      cases h
      exact ⟨rfl, h1⟩
    · cases h
theorem okP_fmt {P P' : Pl} (h : EqP P' P) : okP (fmtP P) (some P') = some P' := if_pos (fmtP_congr h)
/-- Both read the same texts, and the same out of them. -/
theorem agree (l : List UInt8) (h : l.length ≤ 2000) : (∃ S T, okP l (progR l) = some S ∧ okP l (refR l) = some T ∧ EqP S T ∧ fmtP S = l ∧ fmtP T = l) ∨ (okP l (progR l) = none ∧ okP l (refR l) = none) := by
  cases hp : okP l (progR l) with
  | some S =>
    obtain ⟨h1, h2⟩ := okP_some hp
    subst h2
    obtain ⟨T, h3, h4⟩ := refR_fmtP S (shortL_len h)
    refine .inl ⟨S, T, rfl, ?_, h4.symm, rfl, fmtP_congr h4⟩
    rw [h3]
    exact okP_fmt h4
  | none =>
    cases hr : okP l (refR l) with
    | none => exact .inr ⟨rfl, rfl⟩
    | some T =>
      obtain ⟨h1, h2⟩ := okP_some hr
      subst h2
      obtain ⟨S, h3, h4⟩ := progR_fmtP T (shortL_len h)
      rw [h3, okP_fmt h4] at hp
      cases hp
end Go.Proofs.YtgohfieleckmgaaGreatDoor

/-
  strings.Split at a byte is spl: plain facts. No condition, no program.
-/
namespace Go.Proofs.YtgohfieleckmgaaGreatDoor
open Go.RowKit Go.Lib
set_option linter.unusedSimpArgs false
set_option linter.unusedVariables false

theorem noB {c : UInt8} {s : List UInt8} (h : index s [c] = -1) : c ∉ s := by
  intro hx
  obtain ⟨k, hk⟩ := List.getElem?_of_mem hx
  rw [index_one] at h
  exact indexByte_none h k hk
theorem atB {c : UInt8} {s : List UInt8} {i : Nat} (h : index s [c] = i) : s = s.take i ++ c :: s.drop (i + 1) ∧ c ∉ s.take i := by
  rw [index_one] at h
  obtain ⟨h1, h2⟩ := indexByte_some h
  constructor
  · have hd := drop_cons h1
    conv => lhs; rw [← List.take_append_drop i s, hd]
  · intro hx
    obtain ⟨k, hk⟩ := List.getElem?_of_mem hx
    have hki : k < i := by
      have := (List.getElem?_eq_some_iff.1 hk).1
      simp at this; omega
    rw [List.getElem?_take, if_pos hki] at hk
    exact h2 k hki hk
theorem splitK_spl (c : UInt8) : ∀ (k : Nat) (s : List UInt8), count s [c] ≤ k → splitK [c] 0 k s = spl c s := by
  intro k
  induction k with
  | zero =>
    intro s h
    have hm : index s [c] = -1 := by
      rcases Int.lt_or_le (index s [c]) 0 with hneg | hpos
      · have := index_ge s [c]; omega
      · obtain ⟨i, hi⟩ := Int.eq_ofNat_of_zero_le hpos
        have := count_hit (by simp) hi
        omega
    rw [spl_plain (noB hm)]; rfl
  | succ k ih =>
    intro s h
    unfold splitK
    by_cases hm : index s [c] = -1
    · rw [if_pos (by simp [hm]), spl_plain (noB hm)]
    · rw [if_neg (by simpa using hm)]
      have hpos : 0 ≤ index s [c] := by have := index_ge s [c]; omega
      obtain ⟨i, hi⟩ := Int.eq_ofNat_of_zero_le hpos
      obtain ⟨e, hno⟩ := atB hi
      have hc := count_hit (by simp) hi
      rw [hi]
      simp only [Int.toNat_natCast, Nat.add_zero, List.length_singleton]
      rw [ih _ (by simp at hc; omega)]
      conv => rhs; rw [e]
      rw [spl_cut hno]
/-- What strings.Split answers, in few words. -/
theorem split42 (s : ByteArray) : ∃ P : List ByteArray, splitB ⟨#[42]⟩ 0 (countB s ⟨#[42]⟩) s = P ∧ P.length = countB s ⟨#[42]⟩ + 1 ∧ P.map (·.data.toList) = spl 42 s.data.toList := by
  refine ⟨_, rfl, splitB_all _ (by decide) 0 _ s rfl, ?_⟩
  rw [splitB_data]
  show splitK [42] 0 (count s.data.toList [42]) s.data.toList = _
  exact splitK_spl 42 _ _ (Nat.le_refl _)
theorem spl_sub (c : UInt8) : ∀ (l : List UInt8), ∀ p ∈ spl c l, p.length ≤ l.length
  | [], p, h => by simp [spl] at h; subst h; simp
  | x :: l, p, h => by
    have ih := spl_sub c l
    unfold spl at h
    split at h
    · rcases List.mem_cons.1 h with rfl | h
      · simp
      · have := ih p h; simp only [List.length_cons]; omega
    · split at h
      · rename_i h0; exact absurd h0 (spl_ne c l)
      · rename_i q qs hq
        rw [hq] at ih
        rcases List.mem_cons.1 h with rfl | h
        · have := ih q List.mem_cons_self
          simp only [List.length_cons]; omega
        · have := ih p (List.mem_cons_of_mem _ h)
          simp only [List.length_cons]; omega
/-- Reading part after part. -/
def stF (ps : List (List UInt8)) (i : Nat) (m : Ex × Rat) : Option (Ex × Rat) := readF (ps.drop i) (decide (i = 0)) m
theorem stF_step {ps : List (List UInt8)} {i : Nat} {p : List UInt8} (h : ps[i]? = some p) (m : Ex × Rat) :
    stF ps i m = if parseOk p && decide (i = 0) then stF ps (i + 1) (m.1, parseQ p) else match powR p with
      | none => none
      | some (j, k) => stF ps (i + 1) (bump m.1 j k, m.2) := by
  unfold stF
  rw [drop_cons h, readF]
  rw [show decide (i + 1 = 0) = false from decide_eq_false (by omega)]
  all_goals
    split
    · rfl
    · cases powR p <;> rfl
theorem stF_end {ps : List (List UInt8)} {i : Nat} (h : ps.length ≤ i) (m : Ex × Rat) : stF ps i m = some m := by
  unfold stF
  rw [List.drop_eq_nil_of_le h]
  rfl
end Go.Proofs.YtgohfieleckmgaaGreatDoor

/-
  One step of the package's Parse: plain facts. No condition, no program.
-/
namespace Go.Proofs.YtgohfieleckmgaaGreatDoor
open Go.RowKit Go.Lib
set_option linter.unusedSimpArgs false
set_option linter.unusedVariables false

theorem word_none {r : List UInt8} (h : indexByte r 32 = -1) : upW r = r ∧ dnW r = [] := by
  have h' : index r [32] = -1 := by rw [index_one]; exact h
  have := noB h'
  exact upW_end fun b hb e => this (e ▸ hb)
theorem word_some {r : List UInt8} {k : Nat} (h : indexByte r 32 = k) : upW r = r.take k ∧ dnW r = r.drop k ∧ k < r.length := by
  have h' : index r [32] = k := by rw [index_one]; exact h
  obtain ⟨e, hno⟩ := atB h'
  have hk : k < r.length := (List.getElem?_eq_some_iff.1 (indexByte_some h).1).1
  have hd : r.drop k = 32 :: r.drop (k + 1) := drop_cons (indexByte_some h).1
  have hw := upW_cut (r := r.drop (k + 1)) (a := r.take k) fun b hb e => hno (e ▸ hb)
  rw [← e] at hw
  exact ⟨hw.1, by rw [hw.2, hd], hk⟩
theorem behR_pre {l : List UInt8} (h : l ≠ []) : behR l = if hasPrefix l [32, 45, 32] then .go true (l.drop 3) else if hasPrefix l [32, 43, 32] then .go false (l.drop 3) else .bad := by
  cases l with
  | nil => exact absurd rfl h
  | cons x t =>
    have key : ∀ p : List UInt8, p.length = 3 → ((hasPrefix (x :: t) p = true) ↔ (x :: t).take 3 = p) := fun p hp => by
      unfold hasPrefix
      rw [List.isPrefixOf_iff_prefix, List.prefix_iff_eq_take, hp]
      exact eq_comm
    show (if (x :: t).take 3 = [32, 45, 32] then Beh.go true ((x :: t).drop 3) else if (x :: t).take 3 = [32, 43, 32] then Beh.go false ((x :: t).drop 3) else Beh.bad) = _
    by_cases h1 : (x :: t).take 3 = [32, 45, 32]
    · rw [if_pos h1, if_pos ((key _ rfl).2 h1)]
    · rw [if_neg h1, if_neg fun k => h1 ((key _ rfl).1 k)]
      by_cases h2 : (x :: t).take 3 = [32, 43, 32]
      · rw [if_pos h2, if_pos ((key _ rfl).2 h2)]
      · rw [if_neg h2, if_neg fun k => h2 ((key _ rfl).1 k)]
/-- What is in a variable of the loop of Parse: how far the text is read. -/
def PsI (l : List UInt8) (i : Nat) (more minus : Bool) (r : List UInt8) (S : Pl) : Prop :=
  FitP (252 * i + 1) S ∧ (if more then ∃ f, r.length < f ∧ sumR f r minus S = progR l ∧ i + r.length ≤ l.length else progR l = some S ∧ i ≤ l.length + 1)
theorem PsI.start (l : List UInt8) : PsI l 0 true (isNeg l) (noSign l) (fun _ => 0) := by
  refine ⟨fitP_zero (by omega), ?_⟩
  have h4 : (noSign l).length ≤ l.length := by unfold noSign; split <;> simp
  exact ⟨l.length + 1, by omega, rfl, by omega⟩
theorem PsI.fit {l r : List UInt8} {i : Nat} {minus : Bool} {S : Pl} {E : Ex} {q : Rat} {m : Bool} (h : PsI l i m minus r S) {u : List UInt8} (hr : readR u = some (E, q)) : FitP (252 * (i + 1) + 1) (addP S (monoP E (sgnQ minus q))) :=
  (h.1.add (fitP_mono E (fit_sgnQ (readR_ok hr).2 minus))).mono (by omega)
/-- A word that is none. -/
theorem PsI.bad {l r : List UInt8} {i : Nat} {minus : Bool} {S : Pl} (h : PsI l i true minus r S) (hr : readR (upW r) = none) : progR l = none := by
  obtain ⟨f, hf, hs, _⟩ := h.2
  cases f with
  | zero => omega
  | succ f => rw [← hs, sumR, hr]
theorem PsI.last {l r : List UInt8} {i : Nat} {minus : Bool} {S : Pl} (h : PsI l i true minus r S) {E : Ex} {q : Rat} (hr : readR (upW r) = some (E, q)) (hd : dnW r = []) (r' : List UInt8) (minus' : Bool) :
    PsI l (i + 1) false minus' r' (addP S (monoP E (sgnQ minus q))) := by
  refine ⟨h.fit hr, ?_⟩
  obtain ⟨f, hf, hs, hl⟩ := h.2
  refine ⟨?_, by omega⟩
  cases f with
  | zero => omega
  | succ f => rw [← hs, sumR, hr, hd]; rfl
theorem PsI.next {l r : List UInt8} {i k : Nat} {minus : Bool} {S : Pl} (h : PsI l i true minus r S) {E : Ex} {q : Rat} (hr : readR (upW r) = some (E, q)) (hd : dnW r = r.drop k) (hk : k < r.length) :
    (hasPrefix (r.drop k) [32, 45, 32] = true → 3 ≤ (r.drop k).length ∧ PsI l (i + 1) true true (r.drop (k + 3)) (addP S (monoP E (sgnQ minus q)))) ∧
    (hasPrefix (r.drop k) [32, 45, 32] = false → hasPrefix (r.drop k) [32, 43, 32] = true → 3 ≤ (r.drop k).length ∧ PsI l (i + 1) true false (r.drop (k + 3)) (addP S (monoP E (sgnQ minus q)))) ∧
    (hasPrefix (r.drop k) [32, 45, 32] = false → hasPrefix (r.drop k) [32, 43, 32] = false → progR l = none) := by
  have hne : r.drop k ≠ [] := by intro e; have := congrArg List.length e; simp at this; omega
  have hb := behR_pre hne
  have hlen : ∀ p : List UInt8, p.length = 3 → hasPrefix (r.drop k) p = true → 3 ≤ (r.drop k).length := fun p hp hh => by
    unfold hasPrefix at hh
    rw [List.isPrefixOf_iff_prefix] at hh
    have := hh.length_le
    omega
  obtain ⟨f, hf, hs, hl⟩ := h.2
  cases f with
  | zero => omega
  | succ f =>
    rw [sumR, hr, hd, hb] at hs
    refine ⟨fun h1 => ?_, fun h1 h2 => ?_, fun h1 h2 => ?_⟩
    · have h3 := hlen _ rfl h1
      rw [h1] at hs
      simp only [if_true, List.drop_drop] at hs
      simp only [List.length_drop] at h3
      exact ⟨by simp only [List.length_drop]; omega, h.fit hr, f, by simp only [List.length_drop]; omega, hs, by simp only [List.length_drop]; omega⟩
    · have h3 := hlen _ rfl h2
      rw [h1, h2] at hs
      simp only [Bool.false_eq_true, if_false, if_true, List.drop_drop] at hs
      simp only [List.length_drop] at h3
      exact ⟨by simp only [List.length_drop]; omega, h.fit hr, f, by simp only [List.length_drop]; omega, hs, by simp only [List.length_drop]; omega⟩
    · rw [h1, h2] at hs
      simpa using hs.symm
end Go.Proofs.YtgohfieleckmgaaGreatDoor

/-
  The reference's pieces, step by step: plain facts. No condition, no program.
-/
namespace Go.Proofs.YtgohfieleckmgaaGreatDoor
open Go.RowKit Go.Lib
set_option linter.unusedSimpArgs false
set_option linter.unusedVariables false

def ng (b : Bool) : List UInt8 := if b then [45] else []
/-- How far the text is cut: i bytes are seen, the piece begins at f behind the sign. -/
def PcI (l : List UInt8) (i f : Nat) (neg : Bool) (D : List (List UInt8)) : Prop :=
  f ≤ i ∧ i ≤ l.length ∧ (if i = 0 then D = [] ∧ neg = false else D ++ pcs (l.drop i) (ng neg ++ (l.take i).drop f) = piecesR l)
theorem PcI.start (l : List UInt8) : PcI l 0 0 false [] := ⟨Nat.le_refl _, Nat.zero_le _, rfl, rfl⟩
theorem PcI.skip {l : List UInt8} {f : Nat} {neg : Bool} {D : List (List UInt8)} (h : PcI l 0 f neg D) (hl : 0 < l.length) : PcI l 1 f neg D := by
  obtain ⟨h1, _, rfl, rfl⟩ := h
  have : f = 0 := by omega
  subst this
  refine ⟨by omega, hl, ?_⟩
  cases l with
  | nil => simp at hl
  | cons x r => rfl
theorem PcI.step {l : List UInt8} {i f : Nat} {neg : Bool} {D : List (List UInt8)} (h : PcI l i f neg D) (h0 : i ≠ 0) (hl : i < l.length)
    (h1 : (l.drop i).take 3 ≠ [32, 43, 32]) (h2 : (l.drop i).take 3 ≠ [32, 45, 32]) : PcI l (i + 1) f neg D := by
  obtain ⟨hf, _, hp⟩ := h
  rw [if_neg h0] at hp
  refine ⟨by omega, hl, ?_⟩
  rw [if_neg (by omega)]
  have hd : l.drop i = l[i] :: l.drop (i + 1) := List.drop_eq_getElem_cons hl
  rw [hd] at hp h1 h2
  rw [pcs, if_neg h1, if_neg h2] at hp
  rw [← hp, List.append_assoc]
  congr 3
  rw [List.take_succ_eq_append_getElem hl, List.drop_append_of_le_length (by rw [List.length_take]; omega)]
theorem PcI.hit {l : List UInt8} {i f : Nat} {neg : Bool} {D : List (List UInt8)} (h : PcI l i f neg D) (h0 : i ≠ 0) (hl : i + 3 ≤ l.length) (m : Bool)
    (h1 : (l.drop i).take 3 = if m then [32, 45, 32] else [32, 43, 32]) : PcI l (i + 3) (i + 3) m (D ++ [ng neg ++ (l.take i).drop f]) := by
  obtain ⟨hf, _, hp⟩ := h
  rw [if_neg h0] at hp
  refine ⟨by omega, hl, ?_⟩
  rw [if_neg (by omega)]
  have hd : l.drop i = l[i] :: l.drop (i + 1) := List.drop_eq_getElem_cons (by omega)
  rw [hd] at hp h1
  have hn : (l.take (i + 3)).drop (i + 3) = [] := List.drop_eq_nil_of_le (by rw [List.length_take]; omega)
  rw [hn, List.append_nil, List.append_assoc, ← hp]
  congr 1
  rw [pcs]
  cases m with
  | true =>
    rw [if_pos rfl] at h1
    rw [if_neg (by rw [h1]; decide), if_pos h1, List.drop_drop]
    rfl
  | false =>
    rw [if_neg (by decide)] at h1
    rw [if_pos h1, List.drop_drop]
    rfl
theorem pcs_short {r cur : List UInt8} (h : r.length < 3) : pcs r cur = [cur ++ r] := by
  induction r generalizing cur with
  | nil => rw [pcs, List.append_nil]
  | cons x r ih =>
    have hne : ∀ p : List UInt8, p.length = 3 → (x :: r).take 3 ≠ p := fun p hp e => by
      have := congrArg List.length e
      rw [List.length_take, hp] at this
      omega
    rw [pcs, if_neg (hne _ rfl), if_neg (hne _ rfl), ih (by simp only [List.length_cons] at h; omega), List.append_assoc]
    rfl
theorem PcI.fin {l : List UInt8} {i f : Nat} {neg : Bool} {D : List (List UInt8)} (h : PcI l i f neg D) (hl : l.length < i + 3) : D ++ [ng neg ++ l.drop f] = piecesR l := by
  obtain ⟨hf, hi, hp⟩ := h
  by_cases h0 : i = 0
  · rw [if_pos h0] at hp
    obtain ⟨rfl, rfl⟩ := hp
    have : f = 0 := by omega
    subst this
    cases l with
    | nil => rfl
    | cons x r =>
      show [x :: r] = pcs r [x]
      rw [pcs_short (by simp only [List.length_cons] at hl; omega)]
      rfl
  · rw [if_neg h0, pcs_short (by rw [List.length_drop]; omega)] at hp
    rw [← hp, List.append_assoc, ← List.drop_append_of_le_length (by rw [List.length_take]; omega), List.take_append_drop]
end Go.Proofs.YtgohfieleckmgaaGreatDoor
