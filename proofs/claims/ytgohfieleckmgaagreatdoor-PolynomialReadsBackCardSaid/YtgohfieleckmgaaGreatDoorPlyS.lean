/-
  Joined out of XPly, XPlyB, XPlyC, XPlyD, XPlyE, XPlyF, XPlyG, XPlyI, XPlyH.
-/
import Derived.Test.YtgohfieleckmgaaGreatDoorBase
import Derived.Test.YtgohfieleckmgaaGreatDoorRatM
import Derived.Test.YtgohfieleckmgaaGreatDoorRatU

/-
  Polynomials in three parameters up to degree 5, as functions of the exponents: plain facts. No condition, no program.
-/
namespace Go.Proofs.YtgohfieleckmgaaGreatDoor

/-- Exponents. -/
abbrev Ex := Nat × Nat × Nat
def deg (e : Ex) : Nat := e.1 + e.2.1 + e.2.2
/-- All exponents of degree up to 5, the greater ones first. -/
def allE : List Ex := (List.range 6).reverse.flatMap fun a => (List.range (6 - a)).reverse.flatMap fun b => (List.range (6 - a - b)).reverse.map fun c => (a, b, c)
/-- d is greater than e. -/
def gtE (d e : Ex) : Bool := decide (e.1 < d.1) || (decide (e.1 = d.1) && (decide (e.2.1 < d.2.1) || (decide (e.2.1 = d.2.1) && decide (e.2.2 < d.2.2))))

theorem mem_allE {e : Ex} : e ∈ allE ↔ deg e ≤ 5 := by
  obtain ⟨a, b, c⟩ := e
  unfold allE deg
  simp only [List.mem_flatMap, List.mem_reverse, List.mem_range, List.mem_map, Prod.mk.injEq]
  constructor
  · rintro ⟨a', ha, b', hb, c', hc, rfl, rfl, rfl⟩; omega
  · intro h; exact ⟨a, by omega, b, by omega, c, by omega, rfl, rfl, rfl⟩
theorem allE_sorted : allE.Pairwise (fun d e => gtE d e = true) := by decide +kernel
theorem gtE_trans {a b c : Ex} (h : gtE a b = true) (k : gtE b c = true) : gtE a c = true := by
  unfold gtE at *
  simp only [Bool.or_eq_true, Bool.and_eq_true, decide_eq_true_eq] at *
  omega
theorem gtE_irrefl (a : Ex) : gtE a a = false := by unfold gtE; simp
theorem gtE_total {a b : Ex} (h : a ≠ b) : gtE a b = true ∨ gtE b a = true := by
  obtain ⟨a1, a2, a3⟩ := a
  obtain ⟨b1, b2, b3⟩ := b
  unfold gtE
  simp only [Bool.or_eq_true, Bool.and_eq_true, decide_eq_true_eq]
  simp only [ne_eq, Prod.mk.injEq, not_and] at h
  omega

/-- A polynomial. -/
abbrev Pl := Ex → Rat
/-- Its exponents, the greater ones first. -/
def supp (P : Pl) : List Ex := allE.filter fun e => P e != 0

theorem supp_sorted (P : Pl) : (supp P).Pairwise (fun d e => gtE d e = true) := allE_sorted.filter _
theorem mem_supp {P : Pl} {e : Ex} : e ∈ supp P ↔ deg e ≤ 5 ∧ P e ≠ 0 := by
  unfold supp; rw [List.mem_filter, mem_allE]; simp
theorem supp_congr {P Q : Pl} (h : ∀ e, deg e ≤ 5 → P e = Q e) : supp P = supp Q := by
  unfold supp
  apply List.filter_congr
  intro e he
  rw [h e (mem_allE.1 he)]

/-- Two lists in falling order with the same members are one. -/
theorem sorted_eq : ∀ {l m : List Ex}, l.Pairwise (fun d e => gtE d e = true) → m.Pairwise (fun d e => gtE d e = true) → (∀ e, e ∈ l ↔ e ∈ m) → l = m
  | [], [], _, _, _ => rfl
  | [], y :: m, _, _, h => by have := (h y).2 (by simp); simp at this
  | x :: l, [], _, _, h => by have := (h x).1 (by simp); simp at this
  | x :: l, y :: m, hl, hm, h => by
    obtain ⟨hx, hl'⟩ := List.pairwise_cons.1 hl
    obtain ⟨hy, hm'⟩ := List.pairwise_cons.1 hm
    have hxy : x = y := by
      by_cases e : x = y
      · exact e
      · exfalso
        have h1 : x ∈ m := by
          rcases List.mem_cons.1 ((h x).1 (by simp)) with h1 | h1
          · exact absurd h1 e
          · exact h1
        have h2 : y ∈ l := by
          rcases List.mem_cons.1 ((h y).2 (by simp)) with h2 | h2
          · exact absurd h2.symm e
          · exact h2
        have := gtE_trans (hx y h2) (hy x h1)
        rw [gtE_irrefl] at this
        cases this
    subst hxy
    congr 1
    refine sorted_eq hl' hm' fun e => ⟨fun he => ?_, fun he => ?_⟩
    · rcases List.mem_cons.1 ((h e).1 (List.mem_cons_of_mem _ he)) with h1 | h1
      · subst h1
        have := hx e he
        rw [gtE_irrefl] at this
        cases this
      · exact h1
    · rcases List.mem_cons.1 ((h e).2 (List.mem_cons_of_mem _ he)) with h1 | h1
      · subst h1
        have := hy e he
        rw [gtE_irrefl] at this
        cases this
      · exact h1

/-! ### Sums over lists -/
section
variable {α β : Type}
def sumL (l : List α) (f : α → Rat) : Rat := (l.map f).sum
theorem sumL_nil (f : α → Rat) : sumL [] f = 0 := rfl
theorem sumL_cons (a : α) (l : List α) (f : α → Rat) : sumL (a :: l) f = f a + sumL l f := by simp [sumL]
theorem sumL_append (l m : List α) (f : α → Rat) : sumL (l ++ m) f = sumL l f + sumL m f := by
  induction l with
  | nil => rw [List.nil_append, sumL_nil]; grind
  | cons a l ih => rw [List.cons_append, sumL_cons, sumL_cons, ih]; grind
theorem sumL_congr {l : List α} {f g : α → Rat} (h : ∀ a ∈ l, f a = g a) : sumL l f = sumL l g := by
  unfold sumL; rw [List.map_congr_left h]
theorem sumL_zero {l : List α} {f : α → Rat} (h : ∀ a ∈ l, f a = 0) : sumL l f = 0 := by
  induction l with
  | nil => rfl
  | cons a l ih => rw [sumL_cons, h a (by simp), ih fun x hx => h x (by simp [hx])]; grind
theorem sumL_add (l : List α) (f g : α → Rat) : sumL l (fun a => f a + g a) = sumL l f + sumL l g := by
  induction l with
  | nil => rw [sumL_nil, sumL_nil, sumL_nil]; grind
  | cons a l ih => rw [sumL_cons, sumL_cons, sumL_cons, ih]; grind
theorem sumL_mul (l : List α) (c : Rat) (f : α → Rat) : sumL l (fun a => c * f a) = c * sumL l f := by
  induction l with
  | nil => rw [sumL_nil, sumL_nil]; grind
  | cons a l ih => rw [sumL_cons, sumL_cons, ih]; grind
theorem sumL_swap (l : List α) (m : List β) (f : α → β → Rat) : sumL l (fun a => sumL m (f a)) = sumL m (fun b => sumL l fun a => f a b) := by
  induction l with
  | nil => rw [sumL_nil]; exact (sumL_zero fun _ _ => rfl).symm
  | cons a l ih =>
    rw [sumL_cons, ih, ← sumL_add]
    exact sumL_congr fun b _ => (sumL_cons a l fun a => f a b).symm
theorem sumL_ite [DecidableEq α] {l : List α} (hn : l.Nodup) {a : α} (ha : a ∈ l) (f : α → Rat) : sumL l (fun x => if x = a then f x else 0) = f a := by
  induction l with
  | nil => cases ha
  | cons b l ih =>
    obtain ⟨hb, hn'⟩ := List.nodup_cons.1 hn
    rw [sumL_cons]
    rcases List.mem_cons.1 ha with rfl | ha
    · rw [if_pos rfl, sumL_zero fun x hx => if_neg fun e => hb (by rw [← e]; exact hx)]; grind
    · rw [if_neg fun e => hb (by rw [e]; exact ha), ih hn' ha]; grind
theorem sumL_filter (l : List α) (p : α → Bool) (f : α → Rat) (h : ∀ a ∈ l, p a = false → f a = 0) : sumL (l.filter p) f = sumL l f := by
  induction l with
  | nil => rfl
  | cons a l ih =>
    have ih' := ih fun x hx => h x (by simp [hx])
    cases hp : p a with
    | true => rw [List.filter_cons_of_pos hp, sumL_cons, sumL_cons, ih']
    | false => rw [List.filter_cons_of_neg (by simp [hp]), sumL_cons, h a (by simp) hp, ih']; grind
end

theorem allE_nodup : allE.Nodup := by
  unfold List.Nodup
  refine List.Pairwise.imp ?_ allE_sorted
  intro a b h e
  subst e
  rw [gtE_irrefl] at h
  cases h

/-! ### The ring -/
/-- The sum, a product with a number, a number, a parameter. -/
def addP (P Q : Pl) : Pl := fun e => P e + Q e
def constP (q : Rat) : Pl := fun e => if e = (0, 0, 0) then q else 0
/-- A monomial. -/
def monoP (d : Ex) (q : Rat) : Pl := fun e => if e = d then q else 0
def addE (d e : Ex) : Ex := (d.1 + e.1, d.2.1 + e.2.1, d.2.2 + e.2.2)
theorem addE_comm (d e : Ex) : addE d e = addE e d := by unfold addE; simp [Nat.add_comm]
theorem addE_assoc (d e f : Ex) : addE (addE d e) f = addE d (addE e f) := by unfold addE; simp [Nat.add_assoc]
theorem deg_add (d e : Ex) : deg (addE d e) = deg d + deg e := by unfold addE deg; simp only; omega
theorem addE_zero (d : Ex) : addE d (0, 0, 0) = d := rfl
/-- The truncated product: the sum of the products of two monomials. -/
def mulP (P Q : Pl) : Pl := fun e => sumL allE fun d => sumL allE fun d' => if addE d d' = e then P d * Q d' else 0
/-- The same up to degree 5. -/
def EqP (P Q : Pl) : Prop := ∀ e, deg e ≤ 5 → P e = Q e
theorem EqP.refl (P : Pl) : EqP P P := fun _ _ => rfl
theorem EqP.symm {P Q : Pl} (h : EqP P Q) : EqP Q P := fun e he => (h e he).symm
theorem EqP.trans {P Q R : Pl} (h : EqP P Q) (k : EqP Q R) : EqP P R := fun e he => (h e he).trans (k e he)

theorem mulP_comm (P Q : Pl) : mulP P Q = mulP Q P := by
  funext e
  unfold mulP
  rw [sumL_swap]
  exact sumL_congr fun a _ => sumL_congr fun b _ => by rw [addE_comm, Rat.mul_comm]
theorem mulP_add (P Q R : Pl) : mulP P (addP Q R) = addP (mulP P Q) (mulP P R) := by
  funext e
  unfold mulP addP
  rw [← sumL_add]
  refine sumL_congr fun a _ => ?_
  rw [← sumL_add]
  refine sumL_congr fun b _ => ?_
  split <;> grind
theorem mulP_congr {P P' Q Q' : Pl} (h : EqP P P') (k : EqP Q Q') : mulP P Q = mulP P' Q' := by
  funext e
  exact sumL_congr fun a ha => sumL_congr fun b hb => by rw [h a (mem_allE.1 ha), k b (mem_allE.1 hb)]
theorem mulP_one (P : Pl) : EqP (mulP P (constP 1)) P := by
  intro e he
  unfold mulP
  rw [sumL_congr (g := fun d => if d = e then P d else 0) fun d _ => ?_]
  · exact sumL_ite allE_nodup (mem_allE.2 he) P
  · rw [sumL_congr (g := fun d' => if d' = (0, 0, 0) then (if addE d d' = e then P d else 0) else 0) fun d' _ => ?_]
    · rw [sumL_ite allE_nodup (mem_allE.2 (by decide)) (fun d' => if addE d d' = e then P d else 0), addE_zero]
    · unfold constP
      by_cases h : d' = (0, 0, 0)
      · rw [if_pos h, if_pos h]; split <;> grind
      · rw [if_neg h, if_neg h]; split <;> grind

/-- Products of three. -/
def mul3 (P Q R : Pl) (e : Ex) : Rat := sumL allE fun a => sumL allE fun b => sumL allE fun c => if addE (addE a b) c = e then P a * Q b * R c else 0
theorem mulP_left (P Q R : Pl) : ∀ e, deg e ≤ 5 → mulP (mulP P Q) R e = mul3 P Q R e := by
  intro e he
  have h1 : mulP (mulP P Q) R e = sumL allE fun d => sumL allE fun c => sumL allE fun a => sumL allE fun b => if addE a b = d then (if addE d c = e then P a * Q b * R c else 0) else 0 := by
    refine sumL_congr fun d _ => sumL_congr fun c _ => ?_
    by_cases hd : addE d c = e
    · rw [if_pos hd]
      unfold mulP
      rw [Rat.mul_comm, ← sumL_mul]
      refine sumL_congr fun a _ => ?_
      rw [← sumL_mul]
      refine sumL_congr fun b _ => ?_
      simp only [hd, if_true]
      split <;> grind
    · rw [if_neg hd]
      refine (sumL_zero fun a _ => sumL_zero fun b _ => ?_).symm
      simp only [hd, if_false]
      split <;> rfl
  rw [h1]
  have h2 : ∀ (f : Ex → Ex → Ex → Ex → Rat), (sumL allE fun d => sumL allE fun c => sumL allE fun a => sumL allE fun b => f d c a b) = sumL allE fun a => sumL allE fun b => sumL allE fun c => sumL allE fun d => f d c a b := by
    intro f
    rw [sumL_congr fun d _ => sumL_swap allE allE _, sumL_swap]
    refine sumL_congr fun a _ => ?_
    rw [sumL_congr fun d _ => sumL_swap allE allE _, sumL_swap]
    refine sumL_congr fun b _ => ?_
    rw [sumL_swap]
  rw [h2]
  refine sumL_congr fun a _ => sumL_congr fun b _ => sumL_congr fun c _ => ?_
  by_cases hab : deg (addE a b) ≤ 5
  · rw [sumL_congr (g := fun d => if d = addE a b then (if addE d c = e then P a * Q b * R c else 0) else 0) fun d _ => ?_]
    · exact sumL_ite allE_nodup (mem_allE.2 hab) fun d => if addE d c = e then P a * Q b * R c else 0
    · by_cases h : addE a b = d
      · rw [if_pos h, if_pos h.symm]
      · rw [if_neg h, if_neg (fun e => h e.symm)]
  · rw [if_neg, sumL_zero]
    · intro d hd
      rw [if_neg]
      intro h
      exact hab (h ▸ mem_allE.1 hd)
    · intro h
      have := deg_add (addE a b) c
      rw [h] at this
      omega
theorem mul3_swap (P Q R : Pl) (e : Ex) : mul3 P Q R e = mul3 Q R P e := by
  unfold mul3
  rw [sumL_swap]
  refine sumL_congr fun b _ => ?_
  rw [sumL_swap]
  refine sumL_congr fun c _ => sumL_congr fun a _ => ?_
  have h1 : addE (addE a b) c = addE (addE b c) a := by rw [addE_assoc, addE_comm]
  have h2 : P a * Q b * R c = Q b * R c * P a := by grind
  rw [h1, h2]
theorem mulP_assoc (P Q R : Pl) : EqP (mulP (mulP P Q) R) (mulP P (mulP Q R)) := by
  intro e he
  rw [mulP_left P Q R e he, mul3_swap, ← mulP_left Q R P e he, mulP_comm]

end Go.Proofs.YtgohfieleckmgaaGreatDoor

/-
  Polynomials in three parameters up to degree 5: the star and the values. No condition, no program.
-/
namespace Go.Proofs.YtgohfieleckmgaaGreatDoor

theorem mulP_const (P : Pl) (q : Rat) : EqP (mulP P (constP q)) (fun e => P e * q) := by
  intro e he
  unfold mulP
  rw [sumL_congr (g := fun d => if d = e then P d * q else 0) fun d _ => ?_]
  · exact sumL_ite allE_nodup (mem_allE.2 he) fun d => P d * q
  · rw [sumL_congr (g := fun d' => if d' = (0, 0, 0) then (if addE d d' = e then P d * q else 0) else 0) fun d' _ => ?_]
    · rw [sumL_ite allE_nodup (mem_allE.2 (by decide)) (fun d' => if addE d d' = e then P d * q else 0), addE_zero]
    · unfold constP
      by_cases h : d' = (0, 0, 0)
      · rw [if_pos h, if_pos h]
      · rw [if_neg h, if_neg h]; split <;> grind

/-- Powers times a number: t n^k. -/
def powP (t n : Pl) : Nat → Pl
  | 0 => t
  | k + 1 => mulP (powP t n k) n
/-- Sums of powers. -/
def geoP (t n : Pl) : Nat → Pl
  | 0 => t
  | k + 1 => addP (geoP t n k) (powP t n (k + 1))
theorem powP_low (t n : Pl) (h0 : n (0, 0, 0) = 0) : ∀ k e, deg e < k → powP t n k e = 0
  | 0, _, h => absurd h (by omega)
  | k + 1, e, h => by
    show mulP (powP t n k) n e = 0
    unfold mulP
    refine sumL_zero fun d _ => sumL_zero fun d' _ => ?_
    split
    · rename_i hd
      subst hd
      rw [deg_add] at h
      by_cases hk : deg d < k
      · rw [powP_low t n h0 k d hk]; grind
      · have : d' = (0, 0, 0) := by
          obtain ⟨a, b, c⟩ := d'
          unfold deg at h hk
          simp only [Prod.mk.injEq]
          simp only at h
          omega
        rw [this, h0]; grind
    · rfl
theorem powP_six (t n : Pl) (h0 : n (0, 0, 0) = 0) : EqP (powP t n 6) (fun _ => 0) := fun e he => powP_low t n h0 6 e (by omega)

theorem geo_step (t n : Pl) : ∀ k e, t e + mulP (geoP t n k) n e = geoP t n k e + powP t n (k + 1) e
  | 0, e => rfl
  | k + 1, e => by
    have h := geo_step t n k e
    have h2 : mulP (geoP t n (k + 1)) n e = mulP (geoP t n k) n e + mulP (powP t n (k + 1)) n e := by
      rw [mulP_comm, show geoP t n (k + 1) = addP (geoP t n k) (powP t n (k + 1)) from rfl, mulP_add, mulP_comm n, mulP_comm n]
      rfl
    rw [h2]
    show _ = (geoP t n k e + powP t n (k + 1) e) + mulP (powP t n (k + 1)) n e
    grind
/-- From some power on all are 0: the sums stand still. -/
theorem geo_still (t n : Pl) (k : Nat) (h : EqP (powP t n k) fun _ => 0) : ∀ j, EqP (powP t n (k + j)) fun _ => 0
  | 0 => h
  | j + 1 => fun e _ => by
    show mulP (powP t n (k + j)) n e = 0
    unfold mulP
    refine sumL_zero fun d hd => sumL_zero fun d' _ => ?_
    rw [geo_still t n k h j d (mem_allE.1 hd)]
    split <;> grind
theorem geo_end (t n : Pl) (k : Nat) (h : EqP (powP t n (k + 1)) fun _ => 0) : ∀ j, EqP (geoP t n (k + j)) (geoP t n k)
  | 0 => fun _ _ => rfl
  | j + 1 => fun e he => by
    show geoP t n (k + j) e + powP t n (k + j + 1) e = _
    have := geo_still t n (k + 1) h j e he
    rw [show k + 1 + j = k + j + 1 by omega] at this
    rw [this, geo_end t n k h j e he]
    grind
/-- The star. -/
def stepP (P : Pl) : Pl := mulP (addP P (constP (-P (0, 0, 0)))) (constP (1 / (1 - P (0, 0, 0))))
def starP (P : Pl) : Pl := geoP (constP (1 / (1 - P (0, 0, 0)))) (stepP P) 5
theorem stepP_eq (P : Pl) : EqP (stepP P) fun e => (P e + constP (-P (0, 0, 0)) e) * (1 / (1 - P (0, 0, 0))) := mulP_const _ _
theorem stepP_zero (P : Pl) : stepP P (0, 0, 0) = 0 := by
  rw [stepP_eq P (0, 0, 0) (by decide)]
  show (P (0, 0, 0) + constP (-P (0, 0, 0)) (0, 0, 0)) * _ = 0
  rw [show constP (-P (0, 0, 0)) (0, 0, 0) = -P (0, 0, 0) from if_pos rfl]
  grind
theorem starP_solves (P : Pl) (h : 1 - P (0, 0, 0) ≠ 0) : EqP (starP P) (addP (constP 1) (mulP P (starP P))) := by
  intro e he
  have h1 := geo_step (constP (1 / (1 - P (0, 0, 0)))) (stepP P) 5 e
  rw [powP_six _ _ (stepP_zero P) e he] at h1
  have h2 : mulP (starP P) (stepP P) e = (1 / (1 - P (0, 0, 0))) * (mulP P (starP P) e - P (0, 0, 0) * starP P e) := by
    have k1 := mulP_congr (EqP.refl (starP P)) (stepP_eq P)
    rw [k1]
    have k2 := mulP_const (starP P) (-P (0, 0, 0)) e he
    have k3 : mulP (starP P) (fun e => (P e + constP (-P (0, 0, 0)) e) * (1 / (1 - P (0, 0, 0)))) e = (mulP (starP P) P e + mulP (starP P) (constP (-P (0, 0, 0))) e) * (1 / (1 - P (0, 0, 0))) := by
      unfold mulP
      rw [← sumL_add, Rat.mul_comm _ (1 / _), ← sumL_mul]
      refine sumL_congr fun d _ => ?_
      rw [← sumL_add, ← sumL_mul]
      refine sumL_congr fun d' _ => ?_
      split <;> grind
    rw [k3, k2, mulP_comm (starP P) P]
    grind
  change constP (1 / (1 - P (0, 0, 0))) e + mulP (starP P) (stepP P) e = starP P e + 0 at h1
  rw [h2] at h1
  show starP P e = constP 1 e + mulP P (starP P) e
  have h3 : constP (1 / (1 - P (0, 0, 0))) e = (1 / (1 - P (0, 0, 0))) * constP 1 e := by
    unfold constP; split <;> grind
  rw [h3] at h1
  generalize mulP P (starP P) e = x at *
  generalize starP P e = s at *
  generalize constP 1 e = o at *
  generalize P (0, 0, 0) = c at *
  have h4 : (1 - c) * (1 / (1 - c)) = 1 := by
    rw [Rat.div_def, Rat.one_mul, Rat.mul_inv_cancel _ h]
  generalize 1 / (1 - c) = t at *
  grind
end Go.Proofs.YtgohfieleckmgaaGreatDoor

/-
  Polynomials in three parameters up to degree 5: their values. No condition, no program.
-/
namespace Go.Proofs.YtgohfieleckmgaaGreatDoor

def monE (x y z : Rat) (e : Ex) : Rat := x ^ e.1 * y ^ e.2.1 * z ^ e.2.2
def evalP (x y z : Rat) (P : Pl) : Rat := sumL allE fun e => P e * monE x y z e
theorem pow_add' (x : Rat) (m : Nat) : ∀ n, x ^ (m + n) = x ^ m * x ^ n
  | 0 => by rw [Nat.add_zero, Rat.pow_zero, Rat.mul_one]
  | n + 1 => by rw [← Nat.add_assoc, Rat.pow_succ, Rat.pow_succ, pow_add' x m n, Rat.mul_assoc]
theorem monE_add (x y z : Rat) (d e : Ex) : monE x y z (addE d e) = monE x y z d * monE x y z e := by
  unfold monE addE
  simp only
  rw [pow_add', pow_add', pow_add']
  grind
theorem eval_add (x y z : Rat) (P Q : Pl) : evalP x y z (addP P Q) = evalP x y z P + evalP x y z Q := by
  unfold evalP addP
  rw [← sumL_add]
  exact sumL_congr fun e _ => by grind
theorem eval_congr {x y z : Rat} {P Q : Pl} (h : EqP P Q) : evalP x y z P = evalP x y z Q :=
  sumL_congr fun e he => by rw [h e (mem_allE.1 he)]
theorem eval_mul (x y z : Rat) (P Q : Pl) (h : ∀ d e, deg d ≤ 5 → deg e ≤ 5 → P d ≠ 0 → Q e ≠ 0 → deg d + deg e ≤ 5) :
    evalP x y z (mulP P Q) = evalP x y z P * evalP x y z Q := by
  unfold evalP
  rw [← sumL_mul]
  have h1 : (sumL allE fun e => mulP P Q e * monE x y z e) = sumL allE fun e => sumL allE fun d => sumL allE fun d' => if e = addE d d' then P d * Q d' * monE x y z e else 0 := by
    refine sumL_congr fun e _ => ?_
    unfold mulP
    rw [Rat.mul_comm, ← sumL_mul]
    refine sumL_congr fun d _ => ?_
    rw [← sumL_mul]
    refine sumL_congr fun d' _ => ?_
    by_cases hd : addE d d' = e
    · rw [if_pos hd, if_pos hd.symm]; grind
    · rw [if_neg hd, if_neg fun k => hd k.symm]; grind
  rw [h1, sumL_swap, sumL_congr fun d _ => sumL_swap allE allE _, sumL_swap]
  refine sumL_congr fun d' hd' => ?_
  rw [Rat.mul_comm, ← sumL_mul]
  refine sumL_congr fun d hd => ?_
  by_cases hz : P d = 0 ∨ Q d' = 0
  · rw [sumL_zero fun e _ => by rcases hz with k | k <;> rw [k] <;> split <;> grind]
    rcases hz with k | k <;> rw [k] <;> grind
  · have hk := h d d' (mem_allE.1 hd) (mem_allE.1 hd') (fun k => hz (.inl k)) fun k => hz (.inr k)
    rw [sumL_ite allE_nodup (mem_allE.2 (by rw [deg_add]; exact hk)) fun e => P d * Q d' * monE x y z e, monE_add]
    grind
end Go.Proofs.YtgohfieleckmgaaGreatDoor

/-
  Polynomials in three parameters up to degree 5: lists of monomials. No condition, no program.
-/
namespace Go.Proofs.YtgohfieleckmgaaGreatDoor

/-- A monomial as a value: exponents and coefficient. -/
abbrev Mn := Ex × Rat
/-- The coefficients of a list. -/
def cof (l : List Mn) : Pl := fun e => sumL l fun m => if m.1 = e then m.2 else 0
/-- The list of a polynomial. -/
def lst (P : Pl) : List Mn := (supp P).map fun e => (e, P e)
/-- A valid list. -/
def Vl (l : List Mn) : Prop := l.Pairwise (fun m n => gtE m.1 n.1 = true) ∧ ∀ m ∈ l, deg m.1 ≤ 5 ∧ m.2 ≠ 0

theorem lst_congr {P Q : Pl} (h : EqP P Q) : lst P = lst Q := by
  unfold lst
  rw [supp_congr h]
  exact List.map_congr_left fun e he => by rw [h e (mem_supp.1 he).1]
theorem lst_vl (P : Pl) : Vl (lst P) := by
  constructor
  · unfold lst
    rw [List.pairwise_map]
    exact supp_sorted P
  · intro m hm
    obtain ⟨e, he, rfl⟩ := List.mem_map.1 hm
    exact mem_supp.1 he
theorem cof_nil : cof [] = fun _ => 0 := rfl
theorem cof_cons (m : Mn) (l : List Mn) (e : Ex) : cof (m :: l) e = (if m.1 = e then m.2 else 0) + cof l e := sumL_cons _ _ _
theorem cof_append (l m : List Mn) : cof (l ++ m) = addP (cof l) (cof m) := by
  funext e; exact sumL_append _ _ _
theorem cof_notin {l : List Mn} {e : Ex} (h : ∀ m ∈ l, m.1 ≠ e) : cof l e = 0 := sumL_zero fun m hm => if_neg (h m hm)
/-- In a falling list a monomial's coefficient is its own. -/
theorem cof_in : ∀ {l : List Mn}, l.Pairwise (fun m n => gtE m.1 n.1 = true) → ∀ m ∈ l, cof l m.1 = m.2
  | [], _, _, hm => by cases hm
  | x :: l, h, m, hm => by
    obtain ⟨hx, hl⟩ := List.pairwise_cons.1 h
    rw [cof_cons]
    rcases List.mem_cons.1 hm with rfl | hm
    · rw [if_pos rfl, cof_notin fun n hn e => ?_]
      · grind
      · have := hx n hn
        rw [e, gtE_irrefl] at this
        cases this
    · rw [if_neg, cof_in hl m hm]
      · grind
      · intro e
        have := hx m hm
        rw [e, gtE_irrefl] at this
        cases this
theorem vl_eq {l : List Mn} (h : Vl l) : l = lst (cof l) := by
  have h1 : l.map (·.1) = supp (cof l) := by
    refine sorted_eq ?_ (supp_sorted _) fun e => ?_
    · rw [List.pairwise_map]; exact h.1
    · rw [mem_supp, List.mem_map]
      constructor
      · rintro ⟨m, hm, rfl⟩
        exact ⟨(h.2 m hm).1, by rw [cof_in h.1 m hm]; exact (h.2 m hm).2⟩
      · rintro ⟨_, hc⟩
        by_cases k : ∃ m ∈ l, m.1 = e
        · exact k
        · exact absurd (cof_notin fun m hm e => k ⟨m, hm, e⟩) hc
  unfold lst
  rw [← h1, List.map_map]
  conv => lhs; rw [← List.map_id l]
  exact List.map_congr_left fun m hm => Prod.ext rfl (cof_in h.1 m hm).symm
theorem cof_lst (P : Pl) : EqP (cof (lst P)) P := by
  intro e he
  by_cases h : P e = 0
  · rw [h]
    refine cof_notin fun m hm k => ?_
    obtain ⟨d, hd, rfl⟩ := List.mem_map.1 hm
    subst k
    exact (mem_supp.1 hd).2 h
  · exact cof_in (lst_vl P).1 (e, P e) (List.mem_map.2 ⟨e, mem_supp.2 ⟨he, h⟩, rfl⟩)
theorem vl_cof {l m : List Mn} (hl : Vl l) (hm : Vl m) (h : EqP (cof l) (cof m)) : l = m := by
  rw [vl_eq hl, vl_eq hm, lst_congr h]
end Go.Proofs.YtgohfieleckmgaaGreatDoor

/-
  Polynomials in three parameters up to degree 5: a monomial put into a list. No condition, no program.
-/
namespace Go.Proofs.YtgohfieleckmgaaGreatDoor

/-- A monomial put into a falling list. -/
def putR : List Mn → Mn → List Mn
  | [], m => [m]
  | x :: l, m => if gtE x.1 m.1 then x :: putR l m else if x.1 = m.1 then (if m.2 + x.2 = 0 then l else (m.1, m.2 + x.2) :: l) else m :: x :: l

theorem putR_mem : ∀ {l : List Mn} {m n : Mn}, n ∈ putR l m → n.1 = m.1 ∨ n ∈ l
  | [], m, n, h => by
    rw [putR] at h
    exact .inl (by rw [List.mem_singleton.1 h])
  | x :: l, m, n, h => by
    rw [putR] at h
    split at h
    · rcases List.mem_cons.1 h with rfl | h
      · exact .inr (by simp)
      · rcases putR_mem h with h | h
        · exact .inl h
        · exact .inr (by simp [h])
    · split at h
      · split at h
        · exact .inr (by simp [h])
        · rcases List.mem_cons.1 h with rfl | h
          · exact .inl rfl
          · exact .inr (by simp [h])
      · rcases List.mem_cons.1 h with rfl | h
        · exact .inl rfl
        · exact .inr h
theorem cof_putR : ∀ (l : List Mn) (m : Mn) (e : Ex), cof (putR l m) e = cof l e + if m.1 = e then m.2 else 0
  | [], m, e => by rw [putR, cof_cons, cof_nil]; grind
  | x :: l, m, e => by
    rw [putR]
    split
    · rw [cof_cons, cof_cons, cof_putR l m e]; grind
    · split
      · rename_i hx
        split
        · rw [cof_cons, hx]; split <;> grind
        · rw [cof_cons, cof_cons, hx]; simp only; split <;> grind
      · rw [cof_cons, cof_cons]; grind
theorem putR_vl : ∀ {l : List Mn} {m : Mn}, Vl l → deg m.1 ≤ 5 → m.2 ≠ 0 → Vl (putR l m)
  | [], m, _, hd, hc => by
    rw [putR]
    exact ⟨List.pairwise_singleton _ _, fun n hn => by rw [List.mem_singleton.1 hn]; exact ⟨hd, hc⟩⟩
  | x :: l, m, h, hd, hc => by
    obtain ⟨hx, hl⟩ := List.pairwise_cons.1 h.1
    have hx5 := h.2 x (by simp)
    have hl' : Vl l := ⟨hl, fun n hn => h.2 n (by simp [hn])⟩
    rw [putR]
    split
    · rename_i hg
      have ih := putR_vl hl' hd hc
      refine ⟨List.pairwise_cons.2 ⟨fun n hn => ?_, ih.1⟩, fun n hn => ?_⟩
      · rcases putR_mem hn with k | k
        · rw [k]; exact hg
        · exact hx n k
      · rcases List.mem_cons.1 hn with rfl | hn
        · exact hx5
        · exact ih.2 n hn
    · rename_i hg
      split
      · rename_i he
        split
        · exact hl'
        · rename_i hz
          refine ⟨List.pairwise_cons.2 ⟨fun n hn => ?_, hl⟩, fun n hn => ?_⟩
          · show gtE m.1 n.1 = true
            rw [← he]; exact hx n hn
          · rcases List.mem_cons.1 hn with rfl | hn
            · exact ⟨hd, hz⟩
            · exact hl'.2 n hn
      · rename_i he
        have hmx : gtE m.1 x.1 = true := by
          rcases gtE_total he with k | k
          · exact absurd k hg
          · exact k
        refine ⟨List.pairwise_cons.2 ⟨fun n hn => ?_, h.1⟩, fun n hn => ?_⟩
        · rcases List.mem_cons.1 hn with rfl | hn
          · exact hmx
          · exact gtE_trans hmx (hx n hn)
        · rcases List.mem_cons.1 hn with rfl | hn
          · exact ⟨hd, hc⟩
          · exact h.2 n hn
/-- What the reference's put answers. -/
def putP (l : List Mn) (m : Mn) : List Mn := if deg m.1 ≤ 5 ∧ m.2 ≠ 0 then putR l m else l
theorem putP_eq {l : List Mn} (h : Vl l) (m : Mn) : Vl (putP l m) ∧ EqP (cof (putP l m)) (addP (cof l) (monoP m.1 m.2)) := by
  unfold putP
  split
  · rename_i k
    refine ⟨putR_vl h k.1 k.2, fun e _ => ?_⟩
    rw [cof_putR]
    show _ = cof l e + monoP m.1 m.2 e
    unfold monoP
    by_cases he : m.1 = e
    · rw [if_pos he, if_pos he.symm]
    · rw [if_neg he, if_neg fun k => he k.symm]
  · rename_i k
    refine ⟨h, fun e he => ?_⟩
    show _ = cof l e + monoP m.1 m.2 e
    unfold monoP
    by_cases hm : e = m.1
    · rw [if_pos hm]
      have : m.2 = 0 := by
        by_cases hc : m.2 = 0
        · exact hc
        · exact absurd ⟨hm ▸ he, hc⟩ k
      rw [this]; grind
    · rw [if_neg hm]; grind
/-- The reference's add: one after the other. -/
theorem foldl_put : ∀ (q : List Mn) {l : List Mn}, Vl l → Vl (q.foldl putP l) ∧ EqP (cof (q.foldl putP l)) (addP (cof l) (cof q))
  | [], l, h => ⟨h, fun e _ => by show cof l e = cof l e + cof [] e; rw [cof_nil]; grind⟩
  | m :: q, l, h => by
    obtain ⟨h1, h2⟩ := putP_eq h m
    obtain ⟨h3, h4⟩ := foldl_put q h1
    refine ⟨h3, fun e he => ?_⟩
    show cof (q.foldl putP (putP l m)) e = cof l e + cof (m :: q) e
    rw [h4 e he, cof_cons]
    show cof (putP l m) e + cof q e = _
    rw [h2 e he]
    show (cof l e + monoP m.1 m.2 e) + cof q e = _
    unfold monoP
    by_cases hm : m.1 = e
    · rw [if_pos hm, if_pos hm.symm]; grind
    · rw [if_neg hm, if_neg fun k => hm k.symm]; grind
/-- The products of two lists' monomials, in the loops' order. -/
def pairs (p q : List Mn) : List Mn := p.flatMap fun m => q.map fun n => (addE m.1 n.1, m.2 * n.2)
theorem cof_pairs (p q : List Mn) (hp : ∀ m ∈ p, deg m.1 ≤ 5) (hq : ∀ m ∈ q, deg m.1 ≤ 5) : EqP (cof (pairs p q)) (mulP (cof p) (cof q)) := by
  intro e he
  have hsplit : ∀ (l : List Mn), (∀ m ∈ l, deg m.1 ≤ 5) → ∀ (f : Ex → Rat), sumL allE (fun d => cof l d * f d) = sumL l fun m => m.2 * f m.1 := by
    intro l hl f
    have : (sumL allE fun d => cof l d * f d) = sumL allE fun d => sumL l fun m => if d = m.1 then m.2 * f d else 0 := by
      refine sumL_congr fun d _ => ?_
      unfold cof
      rw [Rat.mul_comm, ← sumL_mul]
      refine sumL_congr fun m _ => ?_
      by_cases k : m.1 = d
      · rw [if_pos k, if_pos k.symm]; grind
      · rw [if_neg k, if_neg fun j => k j.symm]; grind
    rw [this, sumL_swap]
    exact sumL_congr fun m hm => sumL_ite allE_nodup (mem_allE.2 (hl m hm)) fun d => m.2 * f d
  have h1 : mulP (cof p) (cof q) e = sumL allE fun d => cof p d * sumL allE fun d' => cof q d' * (if addE d d' = e then 1 else 0) := by
    unfold mulP
    refine sumL_congr fun d _ => ?_
    rw [← sumL_mul]
    refine sumL_congr fun d' _ => ?_
    split <;> grind
  rw [h1, hsplit p hp]
  clear h1
  unfold pairs
  induction p with
  | nil => rfl
  | cons m p ih =>
    rw [List.flatMap_cons, cof_append, sumL_cons]
    show cof _ e + cof _ e = _
    rw [ih fun n hn => hp n (by simp [hn]), hsplit q hq]
    congr 1
    rw [← sumL_mul]
    unfold cof sumL
    rw [List.map_map]
    refine congrArg List.sum (List.map_congr_left fun n _ => ?_)
    show (if addE m.1 n.1 = e then m.2 * n.2 else 0) = m.2 * (n.2 * if addE m.1 n.1 = e then 1 else 0)
    split <;> grind
end Go.Proofs.YtgohfieleckmgaaGreatDoor

/-
  Lists of monomials with exponents of any kind: when they are a polynomial, and which. No condition, no program.
-/
namespace Go.Proofs.YtgohfieleckmgaaGreatDoor

/-- Exponents as they come. -/
abbrev Xp := Int × Int × Int
/-- A monomial as it comes. -/
abbrev Mr := Xp × Rat
def exI (e : Ex) : Xp := ((e.1 : Int), (e.2.1 : Int), (e.2.2 : Int))
def exN (e : Xp) : Ex := (e.1.toNat, e.2.1.toNat, e.2.2.toNat)
def toM (m : Mn) : Mr := (exI m.1, m.2)
def fromM (m : Mr) : Mn := (exN m.1, m.2)
/-- Exponents that a polynomial may have. -/
def okE (e : Xp) : Bool := (decide (0 ≤ e.1) && decide (e.1 ≤ 5)) && ((decide (0 ≤ e.2.1) && decide (e.2.1 ≤ 5)) && ((decide (0 ≤ e.2.2) && decide (e.2.2 ≤ 5)) && decide (e.1 + e.2.1 + e.2.2 ≤ 5)))
/-- d is greater than e. -/
def gtI (d e : Xp) : Bool := decide (e.1 < d.1) || (decide (e.1 = d.1) && (decide (e.2.1 < d.2.1) || (decide (e.2.1 = d.2.1) && decide (e.2.2 < d.2.2))))
/-- The order as both packages' functions say it: d before e is negative. -/
def ordI (d e : Xp) : Int := if d = e then 0 else if gtI d e then -1 else 1

theorem exN_exI (e : Ex) : exN (exI e) = e := rfl
theorem fromM_toM (m : Mn) : fromM (toM m) = m := rfl
theorem exI_inj {d e : Ex} (h : exI d = exI e) : d = e := by rw [← exN_exI d, ← exN_exI e, h]
theorem okE_facts {e : Xp} (h : okE e = true) : 0 ≤ e.1 ∧ 0 ≤ e.2.1 ∧ 0 ≤ e.2.2 ∧ e.1 + e.2.1 + e.2.2 ≤ 5 := by
  unfold okE at h
  simp only [Bool.and_eq_true, decide_eq_true_eq] at h
  omega
theorem okE_iff {e : Xp} : okE e = true ↔ 0 ≤ e.1 ∧ 0 ≤ e.2.1 ∧ 0 ≤ e.2.2 ∧ e.1 + e.2.1 + e.2.2 ≤ 5 := by
  unfold okE
  simp only [Bool.and_eq_true, decide_eq_true_eq]
  omega
theorem exI_exN {e : Xp} (h : okE e = true) : exI (exN e) = e := by
  obtain ⟨a, b, c⟩ := e
  have := okE_facts h
  simp only at this
  simp only [exI, exN, Prod.mk.injEq]
  omega
theorem okE_deg {e : Xp} (h : okE e = true) : deg (exN e) ≤ 5 := by
  have := okE_facts h
  unfold deg exN
  simp only
  omega
theorem deg_okE {e : Ex} (h : deg e ≤ 5) : okE (exI e) = true := by
  rw [okE_iff]
  unfold deg at h
  simp only [exI]
  omega
theorem gtI_gtE (d e : Ex) : gtI (exI d) (exI e) = gtE d e := by
  unfold gtI gtE exI
  simp only
  congr 1
  · exact decide_eq_decide.2 (by omega)
  · congr 1
    · exact decide_eq_decide.2 (by omega)
    · congr 1
      · exact decide_eq_decide.2 (by omega)
      · congr 1
        · exact decide_eq_decide.2 (by omega)
        · exact decide_eq_decide.2 (by omega)
theorem gtI_trans {a b c : Xp} (h : gtI a b = true) (k : gtI b c = true) : gtI a c = true := by
  unfold gtI at *
  simp only [Bool.or_eq_true, Bool.and_eq_true, decide_eq_true_eq] at *
  omega
theorem gtI_irrefl (a : Xp) : gtI a a = false := by unfold gtI; simp
theorem gtI_total {a b : Xp} (h : a ≠ b) : gtI a b = true ∨ gtI b a = true := by
  obtain ⟨a1, a2, a3⟩ := a
  obtain ⟨b1, b2, b3⟩ := b
  unfold gtI
  simp only [Bool.or_eq_true, Bool.and_eq_true, decide_eq_true_eq]
  simp only [ne_eq, Prod.mk.injEq, not_and] at h
  omega
theorem ordI_neg {d e : Xp} : ordI d e < 0 ↔ gtI d e = true := by
  unfold ordI
  split
  · rename_i h; subst h; rw [gtI_irrefl]; simp
  · split
    · rename_i h; rw [h]; simp
    · rename_i h; simp [h]

/-- What the packages ask of the element i of a list. -/
def vlI (l : List Mr) (i : Nat) : Bool :=
  match l[i]? with
  | none => true
  | some m => okE m.1 && (decide (m.2 ≠ 0) && (decide (i = 0) || match l[i - 1]? with | none => true | some n => gtI n.1 m.1))
/-- The list is a polynomial. -/
def vlB (l : List Mr) : Bool := (List.range l.length).all (vlI l)
/-- The polynomial that a list is. -/
def polOf (l : List Mr) : Pl := if vlB l then cof (l.map fromM) else fun _ => 0

theorem vlB_all {l : List Mr} : vlB l = true ↔ ∀ i, i < l.length → vlI l i = true := by
  unfold vlB; rw [List.all_eq_true]; simp
theorem vlB_no {l : List Mr} {i : Nat} (hi : i < l.length) (h : vlI l i = false) : vlB l = false := by
  cases hb : vlB l with
  | false => rfl
  | true => rw [vlB_all.1 hb i hi] at h; cases h
theorem vlI_at {l : List Mr} {i : Nat} {m : Mr} (h : l[i]? = some m) (hv : vlI l i = true) : okE m.1 = true ∧ m.2 ≠ 0 ∧ ∀ n, 0 < i → l[i - 1]? = some n → gtI n.1 m.1 = true := by
  unfold vlI at hv
  rw [h] at hv
  simp only [Bool.and_eq_true, decide_eq_true_eq, Bool.or_eq_true] at hv
  refine ⟨hv.1, hv.2.1, fun n hi hn => ?_⟩
  rcases hv.2.2 with k | k
  · omega
  · rw [hn] at k; exact k
theorem vlB_gt {l : List Mr} (h : vlB l = true) : ∀ (k i : Nat) (m n : Mr), l[i]? = some m → l[i + k + 1]? = some n → gtI m.1 n.1 = true := by
  intro k
  induction k with
  | zero =>
    intro i m n hm hn
    have hl : i + 1 < l.length := (List.getElem?_eq_some_iff.1 hn).1
    exact (vlI_at hn (vlB_all.1 h _ hl)).2.2 m (by omega) (by simpa using hm)
  | succ k ih =>
    intro i m n hm hn
    have hl : i + (k + 1) + 1 < l.length := (List.getElem?_eq_some_iff.1 hn).1
    have hx : l[i + k + 1]? = some (l[i + k + 1]'(by omega)) := List.getElem?_eq_getElem _
    exact gtI_trans (ih i m _ hm hx) ((vlI_at hn (vlB_all.1 h _ hl)).2.2 _ (by omega) (by rw [← hx]; congr 1))
theorem vlB_vl {l : List Mr} (h : vlB l = true) : Vl (l.map fromM) ∧ (l.map fromM).map toM = l := by
  have hok : ∀ m ∈ l, okE m.1 = true ∧ m.2 ≠ 0 := fun m hm => by
    obtain ⟨i, hi, rfl⟩ := List.mem_iff_getElem.1 hm
    have := vlI_at (List.getElem?_eq_getElem hi) (vlB_all.1 h i hi)
    exact ⟨this.1, this.2.1⟩
  refine ⟨⟨?_, ?_⟩, ?_⟩
  · rw [List.pairwise_map, List.pairwise_iff_getElem]
    intro i j hi hj hij
    have := vlB_gt h (j - i - 1) i l[i] l[j] (List.getElem?_eq_getElem hi) (by rw [show i + (j - i - 1) + 1 = j by omega]; exact List.getElem?_eq_getElem hj)
    show gtE (exN l[i].1) (exN l[j].1) = true
    rw [← gtI_gtE, exI_exN (hok _ (List.getElem_mem hi)).1, exI_exN (hok _ (List.getElem_mem hj)).1]
    exact this
  · intro m hm
    obtain ⟨x, hx, rfl⟩ := List.mem_map.1 hm
    exact ⟨okE_deg (hok x hx).1, (hok x hx).2⟩
  · rw [List.map_map]
    conv => rhs; rw [← List.map_id l]
    exact List.map_congr_left fun m hm => Prod.ext (exI_exN (hok m hm).1) rfl
theorem vl_vlB {l : List Mn} (h : Vl l) : vlB (l.map toM) = true := by
  rw [vlB_all]
  intro i hi
  have hi' : i < l.length := by simpa using hi
  unfold vlI
  rw [List.getElem?_map, List.getElem?_eq_getElem hi']
  obtain ⟨h1, h2⟩ := h.2 l[i] (List.getElem_mem hi')
  simp only [Option.map_some, Bool.and_eq_true, decide_eq_true_eq, Bool.or_eq_true]
  refine ⟨deg_okE h1, h2, ?_⟩
  rcases Nat.eq_zero_or_pos i with k | k
  · exact .inl k
  · right
    rw [List.getElem?_map, List.getElem?_eq_getElem (show i - 1 < l.length by omega)]
    show gtI (exI _) (exI _) = true
    rw [gtI_gtE]
    exact List.pairwise_iff_getElem.1 h.1 (i - 1) i (by omega) hi' (by omega)
theorem polOf_lst {l : List Mr} (h : vlB l = true) : (lst (polOf l)).map toM = l := by
  obtain ⟨h1, h2⟩ := vlB_vl h
  unfold polOf
  rw [if_pos h, ← vl_eq h1]
  exact h2
theorem lst_zero : lst (fun _ => 0) = [] := by
  unfold lst supp
  rw [List.filter_eq_nil_iff.2]
  · rfl
  · intro e _; simp
theorem polOf_no {l : List Mr} (h : vlB l = false) : polOf l = fun _ => 0 := by
  unfold polOf; rw [h]; rfl
theorem polOf_of (P : Pl) : EqP (polOf ((lst P).map toM)) P := by
  unfold polOf
  rw [if_pos (vl_vlB (lst_vl P)), List.map_map, show fromM ∘ toM = id from funext fromM_toM, List.map_id]
  exact cof_lst P
theorem len_lst (P : Pl) : (lst P).length ≤ 56 := by
  unfold lst supp
  rw [List.length_map]
  exact Nat.le_trans (List.length_filter_le _ _) (by decide +kernel)

/-! ### Lists, taken bit by bit -/
theorem cof_take {l : List Mn} {i : Nat} {m : Mn} (h : l[i]? = some m) : cof (l.take (i + 1)) = addP (cof (l.take i)) (monoP m.1 m.2) := by
  rw [take_snoc h, cof_append]
  congr 1
  funext e
  rw [cof_cons, cof_nil]
  show _ = if e = m.1 then m.2 else 0
  by_cases k : m.1 = e
  · rw [if_pos k, if_pos k.symm]; grind
  · rw [if_neg k, if_neg fun j => k j.symm]; grind
theorem addP_zero (P : Pl) : addP P (fun _ => 0) = P := by funext e; show P e + 0 = P e; grind
theorem zero_addP (P : Pl) : addP (fun _ => 0) P = P := by funext e; show 0 + P e = P e; grind

/-- All coefficients are short. -/
def FitP (k : Nat) (P : Pl) : Prop := ∀ e, deg e ≤ 5 → Fit k (P e)
theorem FitP.mono {k l : Nat} {P : Pl} (h : FitP k P) (hk : k ≤ l) : FitP l P := fun e he => (h e he).mono hk
theorem FitP.congr {k : Nat} {P Q : Pl} (h : FitP k P) (he : EqP P Q) : FitP k Q := fun e hd => by rw [← he e hd]; exact h e hd
theorem FitP.add {k l : Nat} {P Q : Pl} (h : FitP k P) (h' : FitP l Q) : FitP (k + l + 1) (addP P Q) := fun e he => fit_add (h e he) (h' e he)
theorem fitP_zero {k : Nat} (h : 1 ≤ k) : FitP k fun _ => 0 := fun _ _ => fit_zero h
theorem fitP_const {k : Nat} {q : Rat} (h : Fit k q) : FitP k (constP q) := fun e _ => by
  unfold constP; split
  · exact h
  · exact fit_zero h.pos
theorem fitP_mono {k : Nat} {q : Rat} (d : Ex) (h : Fit k q) : FitP k (monoP d q) := fun e _ => by
  unfold monoP; split
  · exact h
  · exact fit_zero h.pos
theorem FitP.mem {k : Nat} {P : Pl} (h : FitP k P) {m : Mn} (hm : m ∈ lst P) : Fit k m.2 := by
  obtain ⟨e, he, rfl⟩ := List.mem_map.1 hm
  exact h e (mem_supp.1 he).1
end Go.Proofs.YtgohfieleckmgaaGreatDoor

/-
  Sizes of sums and products of polynomials, taken bit by bit. No condition, no program.
-/
namespace Go.Proofs.YtgohfieleckmgaaGreatDoor

theorem lst_sorted (P : Pl) : (lst P).Pairwise (fun m n => gtE m.1 n.1 = true) := (lst_vl P).1
theorem lst_at {P : Pl} {m : Mn} (h : m ∈ lst P) : deg m.1 ≤ 5 ∧ m.2 ≠ 0 ∧ m.2 = P m.1 := by
  obtain ⟨e, he, rfl⟩ := List.mem_map.1 h
  obtain ⟨h1, h2⟩ := mem_supp.1 he
  exact ⟨h1, h2, rfl⟩
/-- A part of a polynomial's list: each coefficient is there or not. -/
theorem cof_sub {P : Pl} {l : List Mn} (h : l.Sublist (lst P)) (e : Ex) : cof l e = P e ∨ cof l e = 0 := by
  by_cases k : ∃ m ∈ l, m.1 = e
  · obtain ⟨m, hm, rfl⟩ := k
    rw [cof_in ((lst_sorted P).sublist h) m hm]
    exact .inl (lst_at (h.subset hm)).2.2
  · exact .inr (cof_notin fun m hm he => k ⟨m, hm, he⟩)
theorem fit_part {P : Pl} {l : List Mn} (h : l.Sublist (lst P)) {k : Nat} (hP : FitP k P) (e : Ex) (he : deg e ≤ 5) : Fit k (cof l e) := by
  rcases cof_sub h e with h | h
  · rw [h]; exact hP e he
  · rw [h]; exact fit_zero (hP e he).pos
theorem fit_two {P Q : Pl} {k : Nat} (hP : FitP k P) (hQ : FitP k Q) (i : Nat) : FitP (k + k + 1) (cof ((lst P ++ lst Q).take i)) := by
  rw [List.take_append, cof_append]
  exact FitP.add (fun e he => fit_part (List.take_sublist _ _) hP e he) (fun e he => fit_part (List.take_sublist _ _) hQ e he)
theorem cof_two (P Q : Pl) : EqP (cof (lst P ++ lst Q)) (addP P Q) := by
  intro e he
  rw [cof_append]
  show cof (lst P) e + cof (lst Q) e = P e + Q e
  rw [cof_lst P e he, cof_lst Q e he]

theorem sum_fit {α : Type} {l : List α} {f : α → Rat} {s : Nat} (h : ∀ a ∈ l, Fit s (f a)) : Fit (1 + l.length * (s + 1)) (sumL l f) := by
  induction l with
  | nil => exact (fit_zero (by omega))
  | cons a l ih =>
    rw [sumL_cons]
    have h1 := fit_add (h a (by simp)) (ih fun x hx => h x (by simp [hx]))
    refine h1.mono ?_
    rw [List.length_cons, Nat.succ_mul]
    omega

/-- The products of one monomial with a list's. -/
def row (m : Mn) (l : List Mn) : List Mn := l.map fun n => (addE m.1 n.1, m.2 * n.2)
theorem pairs_cons (m : Mn) (p q : List Mn) : pairs (m :: p) q = row m q ++ pairs p q := rfl
theorem pairs_snoc (p : List Mn) (m : Mn) (q : List Mn) : pairs (p ++ [m]) q = pairs p q ++ row m q := by
  unfold pairs row; rw [List.flatMap_append]; simp
theorem addE_left {d e f : Ex} (h : addE d e = addE d f) : e = f := by
  unfold addE at h
  simp only [Prod.mk.injEq] at h
  obtain ⟨e1, e2, e3⟩ := e
  obtain ⟨f1, f2, f3⟩ := f
  simp only [Prod.mk.injEq] at *
  omega
theorem addE_right {d e f : Ex} (h : addE d f = addE e f) : d = e := by rw [addE_comm d, addE_comm e] at h; exact addE_left h
/-- In a row at most one has exponents e. -/
theorem fit_row {Q : Pl} {l : List Mn} (h : l.Sublist (lst Q)) {k s : Nat} (hQ : FitP k Q) {m : Mn} (hm : Fit s m.2) (e : Ex) : Fit (s + k) (cof (row m l) e) := by
  by_cases hx : ∃ n ∈ l, addE m.1 n.1 = e
  · obtain ⟨n, hn, rfl⟩ := hx
    have h1 : cof (row m l) (addE m.1 n.1) = m.2 * cof l n.1 := by
      unfold row cof
      rw [← sumL_mul]
      unfold sumL
      rw [List.map_map]
      refine congrArg List.sum (List.map_congr_left fun x _ => ?_)
      show (if addE m.1 x.1 = addE m.1 n.1 then m.2 * x.2 else 0) = m.2 * if x.1 = n.1 then x.2 else 0
      by_cases k : x.1 = n.1
      · rw [if_pos k, if_pos (by rw [k])]
      · rw [if_neg k, if_neg (fun j => k (addE_left j))]; grind
    rw [h1]
    exact fit_mul hm (fit_part h hQ n.1 (lst_at (h.subset hn)).1)
  · rw [cof_notin fun x hx' he => ?_]
    · exact fit_zero (by have := hm.pos; omega)
    · obtain ⟨n, hn, rfl⟩ := List.mem_map.1 hx'
      exact hx ⟨n, hn, he⟩
theorem cof_pairs_sum (p q : List Mn) (e : Ex) : cof (pairs p q) e = sumL p fun m => cof (row m q) e := by
  induction p with
  | nil => rfl
  | cons m p ih => rw [pairs_cons, cof_append, sumL_cons, ← ih]; rfl
theorem cof_pairs_comm (p q : List Mn) (e : Ex) : cof (pairs p q) e = cof (pairs q p) e := by
  have h : ∀ (p q : List Mn), cof (pairs p q) e = sumL p fun m => sumL q fun n => if addE m.1 n.1 = e then m.2 * n.2 else 0 := by
    intro p q
    rw [cof_pairs_sum]
    refine sumL_congr fun m _ => ?_
    unfold cof row sumL
    rw [List.map_map]; rfl
  rw [h, h, sumL_swap]
  refine sumL_congr fun n _ => sumL_congr fun m _ => ?_
  rw [addE_comm, Rat.mul_comm]
theorem fit_pairs {P Q : Pl} {p q : List Mn} (hp : p.Sublist (lst P)) (hq : q.Sublist (lst Q)) {k l c : Nat} (hP : FitP k P) (hQ : FitP l Q) (hc : p.length ≤ c ∨ q.length ≤ c) : FitP (1 + c * (k + l + 1)) (cof (pairs p q)) := by
  intro e he
  have hk := (hP (0, 0, 0) (by decide)).pos
  have hl := (hQ (0, 0, 0) (by decide)).pos
  rcases hc with hc | hc
  · rw [cof_pairs_sum]
    refine (sum_fit (s := k + l) (fun m hm => ?_)).mono ?_
    · obtain ⟨h1, h2, h3⟩ := lst_at (hp.subset hm)
      exact fit_row hq hQ (by rw [h3]; exact hP _ h1) e
    · exact Nat.add_le_add_left (Nat.mul_le_mul_right _ hc) 1
  · rw [cof_pairs_comm, cof_pairs_sum]
    refine (sum_fit (s := l + k) (fun m hm => ?_)).mono ?_
    · obtain ⟨h1, h2, h3⟩ := lst_at (hq.subset hm)
      exact fit_row hp hP (by rw [h3]; exact hQ _ h1) e
    · rw [Nat.add_comm l k]; exact Nat.add_le_add_left (Nat.mul_le_mul_right _ hc) 1
/-- What stands in the sum when i rows and j elements of the next are done. -/
def mulTo (P Q : Pl) (i j : Nat) : Pl :=
  match (lst P)[i]? with
  | none => cof (pairs ((lst P).take i) (lst Q))
  | some m => addP (cof (pairs ((lst P).take i) (lst Q))) (cof (row m ((lst Q).take j)))
theorem mulTo_zero (P Q : Pl) : mulTo P Q 0 0 = fun _ => 0 := by
  unfold mulTo
  split
  · rfl
  · rw [List.take_zero, List.take_zero]; exact addP_zero _
theorem mulTo_step {P Q : Pl} {i j : Nat} {m n : Mn} (hm : (lst P)[i]? = some m) (hn : (lst Q)[j]? = some n) : mulTo P Q i (j + 1) = addP (mulTo P Q i j) (monoP (addE m.1 n.1) (m.2 * n.2)) := by
  unfold mulTo
  rw [hm]
  dsimp only
  have h1 : cof (row m ((lst Q).take (j + 1))) = addP (cof (row m ((lst Q).take j))) (monoP (addE m.1 n.1) (m.2 * n.2)) := by
    have h2 := cof_take (l := (lst Q).map fun n => (addE m.1 n.1, m.2 * n.2)) (i := j) (m := (addE m.1 n.1, m.2 * n.2)) (by rw [List.getElem?_map, hn]; rfl)
    unfold row
    rw [List.map_take, List.map_take]
    exact h2
  rw [h1]
  funext e
  show _ + (_ + _) = (_ + _) + _
  grind
theorem mulTo_next {P Q : Pl} {i : Nat} {m : Mn} (hm : (lst P)[i]? = some m) : mulTo P Q i (lst Q).length = mulTo P Q (i + 1) 0 := by
  have h1 : mulTo P Q (i + 1) 0 = cof (pairs ((lst P).take (i + 1)) (lst Q)) := by
    unfold mulTo
    split
    · rfl
    · rw [List.take_zero]; exact addP_zero _
  rw [h1, take_snoc hm, pairs_snoc, cof_append]
  unfold mulTo
  rw [hm, List.take_length]
theorem mulTo_end (P Q : Pl) : EqP (mulTo P Q (lst P).length 0) (mulP P Q) := by
  have h1 : mulTo P Q (lst P).length 0 = cof (pairs (lst P) (lst Q)) := by
    unfold mulTo
    rw [List.getElem?_eq_none (Nat.le_refl _), List.take_length]
  rw [h1]
  refine (cof_pairs (lst P) (lst Q) (fun m hm => (lst_at hm).1) (fun m hm => (lst_at hm).1)).trans ?_
  rw [mulP_congr (cof_lst P) (cof_lst Q)]
  exact EqP.refl _
theorem fit_mulTo {P Q : Pl} {k l c : Nat} (hP : FitP k P) (hQ : FitP l Q) (hc : (lst P).length ≤ c ∨ (lst Q).length ≤ c) (i j : Nat) : FitP (c * (k + l + 1) + k + l + 2) (mulTo P Q i j) := by
  have h1 := fit_pairs (p := (lst P).take i) (q := lst Q) (List.take_sublist _ _) (List.Sublist.refl _) hP hQ (c := c) (by
    rcases hc with hc | hc
    · exact .inl (Nat.le_trans (List.length_take_le' _ _) hc)
    · exact .inr hc)
  unfold mulTo
  split
  · exact h1.mono (by omega)
  · rename_i m hm
    have hmm := lst_at (List.mem_of_getElem? hm)
    have h2 : FitP (k + l) (cof (row m ((lst Q).take j))) := fun e _ => fit_row (List.take_sublist _ _) hQ (by rw [hmm.2.2]; exact hP _ hmm.1) e
    exact (h1.add h2).mono (by omega)
theorem fit_mulP {P Q : Pl} {k l c : Nat} (hP : FitP k P) (hQ : FitP l Q) (hc : (lst P).length ≤ c ∨ (lst Q).length ≤ c) : FitP (c * (k + l + 1) + k + l + 2) (mulP P Q) := (fit_mulTo hP hQ hc _ _).congr (mulTo_end P Q)
end Go.Proofs.YtgohfieleckmgaaGreatDoor

/-
  What the reference's put hands back, by the place where it stops. No condition, no program.
-/
namespace Go.Proofs.YtgohfieleckmgaaGreatDoor

/-- A monomial put into a polynomial. -/
def putQ2 (P : Pl) (e : Xp) (q : Rat) : Pl := if okE e then addP P (monoP (exN e) q) else P

theorem putR_pass : ∀ {l : List Mn} {m : Mn} {k : Nat}, (∀ i x, i < k → l[i]? = some x → gtE x.1 m.1 = true) → putR l m = l.take k ++ putR (l.drop k) m
  | [], m, k, h => by simp
  | x :: l, m, 0, h => by simp
  | x :: l, m, k + 1, h => by
    have hx := h 0 x (by omega) rfl
    rw [putR, if_pos hx, List.take_succ_cons, List.drop_succ_cons, List.cons_append]
    rw [putR_pass (k := k) fun i y hi hy => h (i + 1) y (by omega) (by simpa using hy)]
theorem lst_put {P : Pl} {e : Xp} {q : Rat} (he : okE e = true) (hq : q ≠ 0) : lst (putQ2 P e q) = putR (lst P) (exN e, q) := by
  have h1 := putR_vl (m := (exN e, q)) (lst_vl P) (okE_deg he) hq
  have h2 : EqP (cof (putR (lst P) (exN e, q))) (putQ2 P e q) := by
    intro d hd
    rw [cof_putR, cof_lst P d hd]
    unfold putQ2
    rw [if_pos he]
    show P d + _ = P d + (if d = exN e then q else 0)
    by_cases k : exN e = d
    · rw [if_pos k, if_pos k.symm]
    · rw [if_neg k, if_neg fun j => k j.symm]
  rw [vl_eq h1]
  exact (lst_congr h2).symm
theorem put_zero {P : Pl} {e : Xp} : EqP P (putQ2 P e 0) := by
  intro d _
  unfold putQ2
  split
  · show P d = P d + (if d = exN e then 0 else 0)
    split <;> grind
  · rfl
theorem put_no {P : Pl} {e : Xp} {q : Rat} (h : okE e = false) : putQ2 P e q = P := by unfold putQ2; rw [h]; rfl
/-- How far the loop has come. -/
def Past (P : Pl) (e : Xp) (i : Nat) : Prop := ∀ j x, j < i → (lst P)[j]? = some x → gtE x.1 (exN e) = true
theorem Past.zero (P : Pl) (e : Xp) : Past P e 0 := fun _ _ h => absurd h (by omega)
theorem Past.step {P : Pl} {e : Xp} {i : Nat} {x : Mn} (h : Past P e i) (hx : (lst P)[i]? = some x) (hg : gtE x.1 (exN e) = true) : Past P e (i + 1) := fun j y hj hy => by
  rcases Nat.lt_succ_iff_lt_or_eq.1 hj with k | rfl
  · exact h j y k hy
  · rw [hx] at hy; cases hy; exact hg
section
variable {P : Pl} {e : Xp} {q : Rat} {i : Nat}
theorem put_end (he : okE e = true) (hq : q ≠ 0) (h : Past P e i) (hi : i = (lst P).length) : (lst (putQ2 P e q)).map toM = ((lst P).map toM).take i ++ [(e, q)] ++ ((lst P).map toM).drop i := by
  rw [lst_put he hq, putR_pass (l := lst P) (m := (exN e, q)) (k := i) h, List.drop_eq_nil_of_le (by omega), putR, List.map_append, List.map_take, List.drop_eq_nil_of_le (by rw [List.length_map]; omega), List.append_nil]
  show _ ++ [(exI (exN e), q)] = _
  rw [exI_exN he]
theorem put_less {x : Mn} (he : okE e = true) (hq : q ≠ 0) (h : Past P e i) (hx : (lst P)[i]? = some x) (hg : gtE x.1 (exN e) = false) (hn : x.1 ≠ exN e) : (lst (putQ2 P e q)).map toM = ((lst P).map toM).take i ++ [(e, q)] ++ ((lst P).map toM).drop i := by
  obtain ⟨hi, rfl⟩ := List.getElem?_eq_some_iff.1 hx
  rw [lst_put he hq, putR_pass (l := lst P) (m := (exN e, q)) (k := i) h, List.drop_eq_getElem_cons hi, putR, hg, if_neg (by simp), if_neg hn, List.map_append, List.map_take, ← List.drop_eq_getElem_cons hi, List.map_cons, List.map_drop]
  simp only [toM, exI_exN he, List.append_assoc, List.singleton_append]
theorem put_same {x : Mn} (he : okE e = true) (hq : q ≠ 0) (h : Past P e i) (hx : (lst P)[i]? = some x) (hn : x.1 = exN e) (hz : q + x.2 ≠ 0) : (lst (putQ2 P e q)).map toM = ((lst P).map toM).take i ++ [(e, q + x.2)] ++ ((lst P).map toM).drop (i + 1) := by
  obtain ⟨hi, rfl⟩ := List.getElem?_eq_some_iff.1 hx
  rw [lst_put he hq, putR_pass (l := lst P) (m := (exN e, q)) (k := i) h, List.drop_eq_getElem_cons hi, putR, hn, gtE_irrefl, if_neg (by simp), if_pos rfl, if_neg hz, List.map_append, List.map_take, List.map_cons, List.map_drop]
  simp only [toM, exI_exN he, List.append_assoc, List.singleton_append]
theorem put_gone {x : Mn} (he : okE e = true) (hq : q ≠ 0) (h : Past P e i) (hx : (lst P)[i]? = some x) (hn : x.1 = exN e) (hz : q + x.2 = 0) : (lst (putQ2 P e q)).map toM = ((lst P).map toM).take i ++ ((lst P).map toM).drop (i + 1) := by
  obtain ⟨hi, rfl⟩ := List.getElem?_eq_some_iff.1 hx
  rw [lst_put he hq, putR_pass (l := lst P) (m := (exN e, q)) (k := i) h, List.drop_eq_getElem_cons hi, putR, hn, gtE_irrefl, if_neg (by simp), if_pos rfl, if_pos hz, List.map_append, List.map_take, List.map_drop]
end
end Go.Proofs.YtgohfieleckmgaaGreatDoor

/-
  Polynomials' stars: sizes, when they stand still. No condition, no program.
-/
namespace Go.Proofs.YtgohfieleckmgaaGreatDoor

/-- Is there a star? -/
def starOk (P : Pl) : Bool := decide (absQ (P (0, 0, 0)) < 1)
def starE (P : Pl) : Int := if starOk P then 0 else 7
def starR (P : Pl) : Pl := if starOk P then starP P else fun _ => 0
abbrev starT (P : Pl) : Rat := 1 / (1 - P (0, 0, 0))

theorem rsg_nonneg {x : Rat} : 0 ≤ rsg x ↔ 0 ≤ x := by
  rw [← Rat.num_nonneg]
  unfold rsg sg
  constructor
  · intro h; split at h <;> (try split at h) <;> omega
  · intro h; split <;> (try split) <;> omega
theorem starOk_sg (P : Pl) : decide (0 ≤ rsg (absQ (P (0, 0, 0)) - 1)) = !starOk P := by
  unfold starOk
  by_cases h : absQ (P (0, 0, 0)) < 1
  · rw [decide_eq_true h, decide_eq_false]; rfl
    rw [rsg_nonneg]; intro k; grind
  · rw [decide_eq_false h, decide_eq_true]; rfl
    rw [rsg_nonneg]; grind
theorem star_den {P : Pl} (h : starOk P = true) : 1 - P (0, 0, 0) ≠ 0 := by
  have h1 := of_decide_eq_true h
  unfold absQ at h1
  intro k
  have h2 : P (0, 0, 0) = 1 := by grind
  rw [h2] at h1
  revert h1
  decide
theorem starT_ne {P : Pl} (h : starOk P = true) : starT P ≠ 0 := by
  have hd := star_den h
  intro k
  have h4 : (1 - P (0, 0, 0)) * (1 / (1 - P (0, 0, 0))) = 1 := by
    rw [Rat.div_def, Rat.one_mul, Rat.mul_inv_cancel _ hd]
  unfold starT at k
  rw [k] at h4
  revert h4
  rw [Rat.mul_zero]
  decide

/-- The sums stand still from the first power that is 0 on. -/
theorem geo_stop (t n : Pl) {k : Nat} (hk : k ≤ 6) (h : EqP (powP t n k) fun _ => 0) : EqP (geoP t n k) (geoP t n 5) := by
  have hs : EqP (powP t n (k + 1)) fun _ => 0 := geo_still t n k h 1
  by_cases h6 : k = 6
  · subst h6
    intro e he
    show geoP t n 5 e + powP t n 6 e = geoP t n 5 e
    rw [h e he]; grind
  · have := geo_end t n k hs (5 - k)
    rw [show k + (5 - k) = 5 by omega] at this
    exact this.symm
theorem powP_zero_iff {t n : Pl} {k : Nat} (h : (lst (powP t n k)).length = 0) : EqP (powP t n k) fun _ => 0 := by
  intro e he
  by_cases hz : powP t n k e = 0
  · exact hz
  · have hm : (e, powP t n k e) ∈ lst (powP t n k) := List.mem_map.2 ⟨e, mem_supp.2 ⟨he, hz⟩, rfl⟩
    rw [List.eq_nil_of_length_eq_zero h] at hm
    cases hm
theorem powP_six_len {t n : Pl} (h0 : n (0, 0, 0) = 0) : (lst (powP t n 6)).length = 0 := by
  rw [lst_congr (powP_six t n h0), lst_zero]; rfl

/-- Sizes of the powers. -/
def starK (c N B : Nat) : Nat → Nat
  | 0 => B
  | i + 1 => c * (starK c N B i + N + 1) + starK c N B i + N + 2
def starG (c N B : Nat) : Nat → Nat
  | 0 => B
  | i + 1 => starG c N B i + starK c N B (i + 1) + 1
theorem fit_pow {t n : Pl} {c N B : Nat} (ht : FitP B t) (hn : FitP N n) (hc : (lst n).length ≤ c) : ∀ i, FitP (starK c N B i) (powP t n i)
  | 0 => ht
  | i + 1 => fit_mulP (fit_pow ht hn hc i) hn (.inr hc)
theorem fit_geo {t n : Pl} {c N B : Nat} (ht : FitP B t) (hn : FitP N n) (hc : (lst n).length ≤ c) : ∀ i, FitP (starG c N B i) (geoP t n i)
  | 0 => ht
  | i + 1 => (fit_geo ht hn hc i).add (fit_pow ht hn hc (i + 1))
theorem step_len (P : Pl) : (lst (stepP P)).length ≤ (lst P).length := by
  have h : (supp (stepP P)).Sublist (supp P) := by
    unfold supp
    have : ∀ (l : List Ex), (∀ e ∈ l, deg e ≤ 5) → (l.filter fun e => stepP P e != 0).Sublist (l.filter fun e => P e != 0) := by
      intro l
      induction l with
      | nil => intro _; exact List.Sublist.refl _
      | cons a l ih =>
        intro hl
        have ih' := ih fun e he => hl e (by simp [he])
        by_cases hz : P a = 0
        · have h1 : stepP P a = 0 := by
            rw [stepP_eq P a (hl a (by simp))]
            unfold constP
            dsimp only
            split
            · rename_i k; subst k; rw [hz]; grind
            · rw [hz]; grind
          rw [List.filter_cons_of_neg (by simp [h1]), List.filter_cons_of_neg (by simp [hz])]
          exact ih'
        · rw [List.filter_cons_of_pos (p := fun e => P e != 0) (by simp [hz])]
          by_cases hs : stepP P a = 0
          · rw [List.filter_cons_of_neg (by simp [hs])]
            exact ih'.trans (List.sublist_cons_self _ _)
          · rw [List.filter_cons_of_pos (by simp [hs])]
            exact ih'.cons_cons _
    exact this allE fun e he => mem_allE.1 he
  unfold lst
  rw [List.length_map, List.length_map]
  exact h.length_le
theorem fit_stepP {P : Pl} {k : Nat} (hP : FitP k P) : FitP (3 * k + 4) (stepP P) := by
  have h1 := hP (0, 0, 0) (by decide)
  have ht : Fit (k + 3) (1 / (1 - P (0, 0, 0))) := by
    have := fit_div (fit_one (k := 1) (by decide)) (fit_sub (fit_one (k := 1) (by decide)) h1)
    exact this.mono (by omega)
  refine FitP.congr (P := fun e => (P e + constP (-P (0, 0, 0)) e) * (1 / (1 - P (0, 0, 0)))) (fun e he => ?_) (stepP_eq P).symm
  have h2 := fit_mul (fit_add (hP e he) (fitP_const (fit_neg h1) e he)) ht
  exact h2.mono (by omega)
theorem fit_starT {P : Pl} {k : Nat} (hP : FitP k P) : Fit (k + 3) (starT P) := by
  have := fit_div (fit_one (k := 1) (by decide)) (fit_sub (fit_one (k := 1) (by decide)) (hP (0, 0, 0) (by decide)))
  exact this.mono (by omega)
/-- All sizes on the way to a star of at most 4 monomials. -/
theorem star_sizes {P : Pl} {k : Nat} (hP : FitP k P) (hk : k ≤ 30) (hl : (lst P).length ≤ 4) : ∀ i, i ≤ 6 → FitP 10000000 (powP (constP (starT P)) (stepP P) i) ∧ FitP 10000000 (geoP (constP (starT P)) (stepP P) i) := by
  intro i hi
  have hP' := hP.mono hk
  have ht := fitP_const (fit_starT hP')
  have hn := fit_stepP hP'
  have hc := Nat.le_trans (step_len P) hl
  have h1 := fit_pow ht hn hc i
  have h2 := fit_geo ht hn hc i
  have hb : starK 4 (3 * 30 + 4) (30 + 3) i ≤ 10000000 ∧ starG 4 (3 * 30 + 4) (30 + 3) i ≤ 10000000 := by
    have : ∀ i, i < 7 → starK 4 (3 * 30 + 4) (30 + 3) i ≤ 10000000 ∧ starG 4 (3 * 30 + 4) (30 + 3) i ≤ 10000000 := by decide +kernel
    exact this i (by omega)
  exact ⟨h1.mono hb.1, h2.mono hb.2⟩
end Go.Proofs.YtgohfieleckmgaaGreatDoor
