/-
  Values that read as rationals; the contract of rational.of. No condition but sizes.
-/
import Derived.Test.YteancfcmiiddiaaRatA
import Derived.Test.YteancfcmiiddiaaRatM
namespace Go.Proofs.Yteancfcmiiddiaa
open Go.RowKit
set_option linter.unusedSimpArgs false
set_option linter.unusedVariables false

/-- The rational that lists say: 0 where they are no number's only representation. -/
def ratOf (neg : Bool) (N D : List Nat) : Rat := if ratOk neg N D then mkRat (sgn neg (val N)) (if D = [] then 1 else val D) else 0

/-- Value v reads as q. -/
def RatV (w : World) (v : Value) (q : Rat) : Prop :=
  ∃ (neg : Bool) (N D : List Nat) (ao bo : Option Addr) (n cap m cap' : Nat), v = .agg #[.bool neg, .slice ao n cap, .slice bo m cap'] ∧ Sl w ao n cap (u32s N) ∧ Sl w bo m cap' (u32s D) ∧ Lim N ∧ Lim D ∧
    (ao = none → cap = 0) ∧ (bo = none → cap' = 0) ∧ n ≤ 17179869184 ∧ m ≤ 17179869184 ∧ ratOf neg N D = q

theorem RatV.next {w w' : World} {v : Value} {q : Rat} (h : RatV w v q) (hb : Below w.heap.size w w') : RatV w' v q := by
  obtain ⟨neg, N, D, ao, bo, n, cap, m, cap', e, h1, h2, h3⟩ := h
  exact ⟨neg, N, D, ao, bo, n, cap, m, cap', e, h1.next hb, h2.next hb, h3⟩

/-- Value v is a fraction of numbers, the denominator not 0. -/
def FrV (w : World) (v : Value) (neg : Bool) (a b : Nat) : Prop :=
  ∃ (ao bo : Option Addr) (n cap m cap' : Nat), v = .agg #[.bool neg, .slice ao n cap, .slice bo m cap'] ∧ Sl w ao n cap (u32s (dig a)) ∧ Sl w bo m cap' (u32s (dig b)) ∧
    (ao = none → cap = 0) ∧ (bo = none → cap' = 0) ∧ b ≠ 0

theorem FrV.next {w w' : World} {v : Value} {neg : Bool} {a b : Nat} (h : FrV w v neg a b) (hb : Below w.heap.size w w') : FrV w' v neg a b := by
  obtain ⟨ao, bo, n, cap, m, cap', e, h1, h2, h3⟩ := h
  exact ⟨ao, bo, n, cap, m, cap', e, h1.next hb, h2.next hb, h3⟩

/-- What a valid number's lists are. -/
theorem ratOk_facts {neg : Bool} {N D : List Nat} (hN : Lim N) (hD : Lim D) (h : ratOk neg N D = true) :
    N = dig (ratOf neg N D).num.natAbs ∧ neg = decide ((ratOf neg N D).num < 0) ∧ (if D = [] then (ratOf neg N D).den = 1 else D = dig (ratOf neg N D).den) := by
  have hq : ratOf neg N D = mkRat (sgn neg (val N)) (if D = [] then 1 else val D) := by rw [ratOf, if_pos h]
  unfold ratOk at h
  simp only [Bool.and_eq_true] at h
  obtain ⟨⟨h1, h2⟩, h3⟩ := h
  have eN := proper_dig hN h1
  have eD := proper_dig hD h2
  by_cases hN0 : N = []
  · rw [if_pos hN0] at h3
    simp only [Bool.and_eq_true, Bool.not_eq_true', decide_eq_true_eq] at h3
    obtain ⟨rfl, rfl⟩ := h3
    subst hN0
    rw [if_pos rfl] at hq
    have : ratOf false [] [] = 0 := by rw [hq]; rfl
    rw [this]
    exact ⟨dig_zero.symm, rfl, rfl⟩
  · have hv : val N ≠ 0 := by intro h0; rw [h0, dig_zero] at eN; exact hN0 eN
    rw [if_neg hN0] at h3
    by_cases hD0 : D = []
    · rw [if_pos hD0] at hq ⊢
      have hq2 : ratOf neg N D = ⟨sgn neg (val N), 1, by decide, by simp⟩ := by rw [hq, Rat.mk_eq_mkRat]
      rw [hq2]
      refine ⟨?_, ?_, rfl⟩
      · dsimp only; rw [sgn_abs]; exact eN
      · dsimp only; rw [sgn_neg neg hv]
    · rw [if_neg hD0] at h3 hq ⊢
      simp only [Bool.and_eq_true, decide_eq_true_eq] at h3
      have hd : val D ≠ 0 := by intro h0; rw [h0, dig_zero] at eD; exact hD0 eD
      have hq2 : ratOf neg N D = ⟨sgn neg (val N), val D, hd, by rw [sgn_abs]; exact h3.2⟩ := by rw [hq, Rat.mk_eq_mkRat]
      rw [hq2]
      refine ⟨?_, ?_, eD⟩
      · dsimp only; rw [sgn_abs]; exact eN
      · dsimp only; rw [sgn_neg neg hv]

/-- The denominator's list. -/
def denL (q : Rat) : List Nat := if q.den = 1 then [] else dig q.den

/-- Value v is q's only representation. -/
def RatC (w : World) (v : Value) (q : Rat) : Prop :=
  ∃ (ao bo : Option Addr) (n cap m cap' : Nat), v = .agg #[.bool (decide (q.num < 0)), .slice ao n cap, .slice bo m cap'] ∧ Sl w ao n cap (u32s (dig q.num.natAbs)) ∧ Sl w bo m cap' (u32s (denL q)) ∧
    (ao = none → cap = 0) ∧ (bo = none → cap' = 0)

theorem RatC.next {w w' : World} {v : Value} {q : Rat} (h : RatC w v q) (hb : Below w.heap.size w w') : RatC w' v q := by
  obtain ⟨ao, bo, n, cap, m, cap', e, h1, h2, h3⟩ := h
  exact ⟨ao, bo, n, cap, m, cap', e, h1.next hb, h2.next hb, h3⟩

theorem lim_denL (q : Rat) : Lim (denL q) := by
  unfold denL
  split
  · exact lim_nil
  · exact lim_dig _

theorem canon_ok (q : Rat) : ratOk (decide (q.num < 0)) (dig q.num.natAbs) (denL q) = true ∧ ratOf (decide (q.num < 0)) (dig q.num.natAbs) (denL q) = q := by
  have h1 : ratOk (decide (q.num < 0)) (dig q.num.natAbs) (denL q) = true := by
    unfold ratOk
    have hp : ∀ n, proper (dig n) = true := fun n => decide_eq_true (strip_dig n)
    have hpd : proper (denL q) = true := by
      unfold denL; split
      · rfl
      · exact hp _
    rw [hp, hpd]
    by_cases h0 : q.num = 0
    · have hq : q = 0 := Rat.num_eq_zero.1 h0
      subst hq
      rw [show (0 : Rat).num = 0 from rfl, show Int.natAbs 0 = 0 from rfl, dig_zero, show denL 0 = [] from rfl]; rfl
    · have hn : dig q.num.natAbs ≠ [] := fun h => h0 (Int.natAbs_eq_zero.1 (dig_nil.1 h))
      rw [if_neg hn]
      unfold denL
      by_cases hd : q.den = 1
      · rw [if_pos hd, if_pos rfl]; rfl
      · rw [if_neg hd, if_neg (fun h => q.den_nz (dig_nil.1 h)), val_dig, val_dig, decide_eq_true hd, decide_eq_true q.reduced]; rfl
  refine ⟨h1, ?_⟩
  rw [ratOf, if_pos h1, val_dig, sgn_num]
  have h2 : (if denL q = [] then 1 else val (denL q)) = q.den := by
    unfold denL
    by_cases hd : q.den = 1
    · rw [if_pos hd, if_pos rfl, hd]
    · rw [if_neg hd, if_neg (fun h => q.den_nz (dig_nil.1 h)), val_dig]
  rw [h2]
  exact Rat.mkRat_self q

theorem denL_len {q : Rat} {k : Nat} (h : Fit k q) : (denL q).length ≤ k := by
  unfold denL; split
  · exact Nat.zero_le _
  · exact h.2

theorem RatC.toV {w : World} {v : Value} {q : Rat} {k : Nat} (h : RatC w v q) (hf : Fit k q) (hk : k ≤ 17179869184) : RatV w v q := by
  obtain ⟨ao, bo, n, cap, m, cap', rfl, h1, h2, hz, hz'⟩ := h
  refine ⟨_, _, _, ao, bo, n, cap, m, cap', rfl, h1, h2, lim_dig _, lim_denL q, hz, hz', ?_, ?_, (canon_ok q).2⟩
  · rw [← h1.lenU]; exact Nat.le_trans hf.1 hk
  · rw [← h2.lenU]; exact Nat.le_trans (denL_len hf) hk

/-- A rational comes back in its only representation. -/
def RatOut (w : World) (q : Rat) (e : Ending) (w' : World) : Prop := ∃ v, e = .returned v ∧ RatC w' v q ∧ Below w.heap.size w w'

/-- Three cells of a result are stored. -/
theorem cell_set3 {w : World} {G B i : Nat} (h : G ≠ B) (x y z : Value) : (((w.setCell ⟨G, 0, none⟩ x).setCell ⟨G, 1, none⟩ y).setCell ⟨G, 2, none⟩ z).cell? ⟨B, i, none⟩ = w.cell? ⟨B, i, none⟩ := by
  have hne : ∀ j, (⟨G, j, none⟩ : Addr) ≠ ⟨B, i, none⟩ := by intro j e; injection e with e; exact h e
  rw [World.cell?_setCell_other (h := hne 2), World.cell?_setCell_other (h := hne 1), World.cell?_setCell_other (h := hne 0)]

theorem below_set3 {w w' : World} {B G : Nat} (h : Below B w w') (hG : B ≤ G) (x y z : Value) : Below B w (((w'.setCell ⟨G, 0, none⟩ x).setCell ⟨G, 1, none⟩ y).setCell ⟨G, 2, none⟩ z) :=
  ((h.setCell hG _).setCell hG _).setCell hG _

theorem Sl.set3 {w : World} {ao : Option Addr} {n cap G : Nat} {xs : List Value} (h : Sl w ao n cap xs) (hO : Off G ao n) (x y z : Value) : Sl (((w.setCell ⟨G, 0, none⟩ x).setCell ⟨G, 1, none⟩ y).setCell ⟨G, 2, none⟩ z) ao n cap xs :=
  ((h.setCell hO _ _).setCell hO _ _).setCell hO _ _

set_option maxHeartbeats 1000000 in
theorem of_any (q : Rat) (v : Value) (w : World) (h : RatV w v q) :
    Calls Try.prog 125 #[v] w fun e w' => ∃ v', e = .returned v' ∧ FrV w' v' (decide (q.num < 0)) q.num.natAbs q.den ∧ Below w.heap.size w w' := by
  obtain ⟨neg, N, D, ao, bo, n, cap, m, cap', rfl, sN, sD, hN, hD, hza, hzb, hn, hm, hq⟩ := h
  have hV := fun W (hb : Below w.heap.size w W) => Valid_any neg N D hN hD ao bo n m cap cap' W (sN.next hb) (sD.next hb) hza hzb hn hm
  have HV := hid hV; clear hV
  have hq := hid hq
  cases hok : ratOk neg N D with
  | false =>
    rw [hok] at HV
    go_enter Try.func125, Try.ntmps125
    go_wp2_with fail
    refine (HV.out _ (((Below.refl _ _).alloc (Nat.le_refl _) _).alloc (by simp) _)).mono ?_; rintro e w1 ⟨rfl, hb1⟩
    obtain ⟨hc, hf⟩ := bcell hb1
    have hz : w.heap.size + 1 < w1.heap.size := by have := hb1.size; simp at this; omega
    go_wp2_with fail
    refine (one_any _).mono ?_; rintro e w2 ⟨rfl, s2, hb2⟩
    obtain ⟨hc2, hf2⟩ := bcell hb2
    have hz2 : w.heap.size + 1 < w2.heap.size := by have := hb2.size; omega
    go_wp2_with fail
    have hq0 : q = 0 := by rw [← hq.out, ratOf, hok]; rfl
    refine bodyPost_ret (v := .agg #[.bool false, .slice none 0 0, .slice (some ⟨w1.heap.size, 0, none⟩) 1 1]) (by simp [results, Try.results125, go_sem, hc, hc2, hz, hz2]) rfl ?_
    subst hq0
    have hbel : Below w.heap.size w w2 := (((Below.refl _ _).alloc (Nat.le_refl _) _).alloc (by simp) _).trans ((hb1.mono (by simp; omega)).trans (hb2.mono (by omega)))
    refine ⟨_, rfl, ⟨none, _, 0, 0, 1, 1, rfl, ?_, ?_, fun _ => rfl, (fun h => by cases h), (by decide)⟩, ((hbel.setCell (by simp) _).setCell (by simp) _).setCell (by simp) _⟩
    · rw [show (0 : Rat).num.natAbs = 0 from rfl, dig_zero]; exact Sl.nil _
    · rw [show (0 : Rat).den = 1 from rfl]
      have hO : Off (w.heap.size + 1) (some ⟨w1.heap.size, 0, none⟩) 1 := Off.fresh (B := w1.heap.size) (by rintro a h; injection h with h; subst h; exact Nat.le_refl _) (by omega)
      exact ((s2.setCell hO _ _).setCell hO _ _).setCell hO _ _
  | true =>
    rw [hok] at HV
    have hfa := ratOk_facts hN hD hok
    rw [hq.out] at hfa
    obtain ⟨hN', hneg, hD'⟩ := hfa
    rw [hN'] at sN
    have hml := hid sD.lenU
    subst hneg
    obtain ⟨neg, hneg⟩ : ∃ b, decide (q.num < 0) = b := ⟨_, rfl⟩
    rw [hneg] at HV ⊢
    clear hq hok hneg hN' hN
    cases m with
    | zero =>
      obtain rfl : D = [] := List.eq_nil_of_length_eq_zero hml.out
      rw [if_pos rfl] at hD'
      rw [hD']
      clear hD' hml
      go_enter Try.func125, Try.ntmps125
      go_wp2_with fail
      refine (HV.out _ (((Below.refl _ _).alloc (Nat.le_refl _) _).alloc (by simp) _)).mono ?_; rintro e w1 ⟨rfl, hb1⟩
      obtain ⟨hc, hf⟩ := bcell hb1
      have hz : w.heap.size + 1 < w1.heap.size := by have := hb1.size; simp at this; omega
      go_wp2_with fail
      have c0 : w1.cell? ⟨w.heap.size, 0, none⟩ = some (.bool neg) := by rw [hc _ _ (by simp; omega)]; simp [go_sem]
      have c1 : w1.cell? ⟨w.heap.size, 1, none⟩ = some (.slice ao n cap) := by rw [hc _ _ (by simp; omega)]; simp [go_sem]
      have d0 : w1.cell? ⟨w.heap.size + 1, 0, none⟩ = some (.bool false) := by rw [hc _ _ (by simp)]; simp [go_sem]
      have d1 : w1.cell? ⟨w.heap.size + 1, 1, none⟩ = some (.slice none 0 0) := by rw [hc _ _ (by simp)]; simp [go_sem]
      have d2 : w1.cell? ⟨w.heap.size + 1, 2, none⟩ = some (.slice none 0 0) := by rw [hc _ _ (by simp)]; simp [go_sem]
      have fr : ∀ i, w1.frozen? ⟨w.heap.size + 1, i, none⟩ = false := fun i => by rw [hf _ _ (by simp)]; simp [go_sem]
      have Fr := hid fr
      clear fr
      have hb01 : Below w.heap.size w w1 := (((Below.refl _ _).alloc (Nat.le_refl _) _).alloc (by simp) _).trans (hb1.mono (by simp; omega))
      have hK' : ∀ w' w'', (w'.cell? ⟨w.heap.size, 0, none⟩ = some (.bool neg) ∧ w'.cell? ⟨w.heap.size, 1, none⟩ = some (.slice ao n cap) ∧ Below w.heap.size w w') → Below w'.heap.size w' w'' → (w''.cell? ⟨w.heap.size, 0, none⟩ = some (.bool neg) ∧ w''.cell? ⟨w.heap.size, 1, none⟩ = some (.slice ao n cap) ∧ Below w.heap.size w w'') :=
        fun w' w'' h hb => ⟨cell_later hb h.1, cell_later hb h.2.1, below_chain h.2.2 hb⟩
      have hSt : ∀ w' (x y z : Value), (w'.cell? ⟨w.heap.size, 0, none⟩ = some (.bool neg) ∧ w'.cell? ⟨w.heap.size, 1, none⟩ = some (.slice ao n cap) ∧ Below w.heap.size w w') →
          (((w'.setCell ⟨w.heap.size + 1, 0, none⟩ x).setCell ⟨w.heap.size + 1, 1, none⟩ y).setCell ⟨w.heap.size + 1, 2, none⟩ z).cell? ⟨w.heap.size, 0, none⟩ = some (.bool neg) ∧ (((w'.setCell ⟨w.heap.size + 1, 0, none⟩ x).setCell ⟨w.heap.size + 1, 1, none⟩ y).setCell ⟨w.heap.size + 1, 2, none⟩ z).cell? ⟨w.heap.size, 1, none⟩ = some (.slice ao n cap) ∧
          Below w.heap.size w (((w'.setCell ⟨w.heap.size + 1, 0, none⟩ x).setCell ⟨w.heap.size + 1, 1, none⟩ y).setCell ⟨w.heap.size + 1, 2, none⟩ z) :=
        fun w' x y z h => ⟨(cell_set3 (by omega) x y z).trans h.1, (cell_set3 (by omega) x y z).trans h.2.1, below_set3 h.2.2 (by omega) x y z⟩
      go_region_held3 (fun w' => w'.cell? ⟨w.heap.size, 0, none⟩ = some (.bool neg) ∧ w'.cell? ⟨w.heap.size, 1, none⟩ = some (.slice ao n cap) ∧ Below w.heap.size w w')
        (first | assumption | exact ⟨c0, c1, hb01.drew⟩ | exact hK' _ _ (by assumption) hbo | exact hSt _ _ _ _ (by assumption) | exact hK' w1.drew _ ⟨c0, c1, hb01.drew⟩ hbo)
        ((go_at_call 134; refine (one_any _).mono ?_; rintro e wo ⟨rfl, so, hbo⟩; have e0 := cell_later hbo d0; have e1 := cell_later hbo d1; have e2 := cell_later hbo d2; have g0 := (hbo.frozen (p := ⟨w.heap.size + 1, 0, none⟩) hz).trans (Fr.out 0); have g1 := (hbo.frozen (p := ⟨w.heap.size + 1, 1, none⟩) hz).trans (Fr.out 1); have g2 := (hbo.frozen (p := ⟨w.heap.size + 1, 2, none⟩) hz).trans (Fr.out 2)))
      go_wp2_with fail
      refine bodyPost_ret (v := .agg #[.bool neg, .slice ao n cap, .slice (some ⟨w1.heap.size, 0, none⟩) 1 1]) (by simp [results, Try.results125, go_sem, e0, e1, e2]) rfl ?_
      have hbel : Below w.heap.size w wo := hb01.drew.trans (hbo.mono (show w.heap.size ≤ w1.heap.size by omega))
      have hO : Off (w.heap.size + 1) (some ⟨w1.heap.size, 0, none⟩) 1 := Off.fresh (B := w1.heap.size) (by rintro a h; injection h with h; subst h; exact Nat.le_refl _) hz
      exact ⟨_, rfl, ⟨ao, _, n, cap, 1, 1, rfl, (sN.next hbel).set3 (Off.old sN (by omega)) _ _ _, so.set3 hO _ _ _, hza, (fun h => by cases h), by decide⟩, below_set3 hbel (by omega) _ _ _⟩
    | succ m =>
      have hD0 : D ≠ [] := by rintro rfl; have := hml.out; simp at this
      rw [if_neg hD0] at hD'
      rw [hD'] at sD
      clear hD' hD0 hml hD
      go_enter Try.func125, Try.ntmps125
      go_wp2_with fail
      refine (HV.out _ (((Below.refl _ _).alloc (Nat.le_refl _) _).alloc (by simp) _)).mono ?_; rintro e w1 ⟨rfl, hb1⟩
      obtain ⟨hc, hf⟩ := bcell hb1
      have hz : w.heap.size + 1 < w1.heap.size := by have := hb1.size; simp at this; omega
      have hb01 : Below w.heap.size w w1 := (((Below.refl _ _).alloc (Nat.le_refl _) _).alloc (by simp) _).trans (hb1.mono (by simp; omega))
      go_wp2_with fail
      refine bodyPost_ret (v := .agg #[.bool neg, .slice ao n cap, .slice bo (m + 1) cap']) (by simp [results, Try.results125, go_sem, hc]) rfl ?_
      exact ⟨_, rfl, ⟨ao, bo, n, cap, m + 1, cap', rfl, (sN.next hb01).set3 (Off.old sN (by omega)) _ _ _, (sD.next hb01).set3 (Off.old sD (by omega)) _ _ _, hza, hzb, q.den_nz⟩, below_set3 hb01 (by omega) _ _ _⟩

end Go.Proofs.Yteancfcmiiddiaa
