/-
  The contracts of Up, Abs and the reference's Div. No condition but sizes.
-/
import Derived.Test.YtgohfieleckmgaaGreatDoorRefY
namespace Go.Proofs.YtgohfieleckmgaaGreatDoor
open Go.RowKit
set_option linter.unusedSimpArgs false
set_option linter.unusedVariables false

theorem rLight_any (s : Bool) (ao bo : Option Addr) (n cap m cap' : Nat) (k : Int) (hn : n ≤ 9223372036854775807) (hm : m ≤ 9223372036854775807) (w : World) :
    Calls Tryz.prog 12 #[.agg #[.bool s, .slice ao n cap, .slice bo m cap'], .int .i64 k] w fun e w' => e = .returned (.bool (decide ((n : Int) ≤ k) && decide ((m : Int) ≤ k))) ∧ Below w.heap.size w w' := by
  have hB := Bk.start (Below.refl w.heap.size w) rfl (.bool s) (.slice ao n cap) (.slice bo m cap') 25
  have hS0 := hB.c3
  have hbel := hB.bel
  cases h1 : decide ((n : Int) ≤ k) with
  | false =>
    have h2 : (false && decide ((m : Int) ≤ k)) = false := rfl
    rw [h2]
    go_enter Tryz.func12, Tryz.ntmps12
    go_wp2_with fail
    go_ret
    exact ⟨rfl, hbel⟩
  | true =>
    rw [Bool.true_and]
    go_enter Tryz.func12, Tryz.ntmps12
    go_wp2_with fail
    go_ret
    exact ⟨rfl, hbel⟩

theorem ratOf_fit {neg : Bool} {N D : List Nat} {k : Nat} (hN : Lim N) (hD : Lim D) (h1 : N.length ≤ k) (h2 : D.length ≤ k) (hk : 1 ≤ k) : Fit k (ratOf neg N D) := by
  unfold ratOf
  split
  · refine fit_mk ?_ ?_ hk
    · rw [sgn_abs]
      exact lim_le (Nat.lt_of_lt_of_le (val_lt hN) (Nat.pow_le_pow_right (by decide) h1))
    · split
      · rw [lim_one]; exact hk
      · exact lim_le (Nat.lt_of_lt_of_le (val_lt hD) (Nat.pow_le_pow_right (by decide) h2))
  · exact fit_zero hk

/-- The absolute value. -/
def absQ (q : Rat) : Rat := if q.num < 0 then -q else q

theorem absQ_mk (q : Rat) : mkRat (sgn false q.num.natAbs) q.den = absQ q := by
  unfold absQ sgn
  by_cases h : q.num < 0
  · rw [if_pos h]
    have e : ((q.num.natAbs : Nat) : Int) = -q.num := by omega
    simp only [Bool.false_eq_true, if_false]
    rw [e, ← Rat.neg_mkRat, Rat.mkRat_self]
  · rw [if_neg h]
    have e : ((q.num.natAbs : Nat) : Int) = q.num := by omega
    simp only [Bool.false_eq_true, if_false]
    rw [e, Rat.mkRat_self]

theorem fit_abs {k : Nat} {q : Rat} (h : Fit k q) : Fit k (absQ q) := by
  unfold absQ; split
  · exact fit_neg h
  · exact h

theorem ratC_abs {w : World} {q : Rat} {s : Bool} {ao bo : Option Addr} {n cap m cap' : Nat} (h : RatC w (.agg #[.bool s, .slice ao n cap, .slice bo m cap']) q) : RatC w (.agg #[.bool false, .slice ao n cap, .slice bo m cap']) (absQ q) := by
  obtain ⟨rfl, h1, h2, hz, hz'⟩ := h.parts
  refine ⟨ao, bo, n, cap, m, cap', ?_, ?_, ?_, hz, hz'⟩
  · have : decide ((absQ q).num < 0) = false := by
      apply decide_eq_false
      unfold absQ; split
      · rw [Rat.neg_num]; omega
      · assumption
    rw [this]
  · have : (absQ q).num.natAbs = q.num.natAbs := by
      unfold absQ; split
      · rw [Rat.neg_num, Int.natAbs_neg]
      · rfl
    rw [this]; exact h1
  · have : denL (absQ q) = denL q := by
      unfold absQ denL; split
      · rw [Rat.neg_den]
      · rfl
    rw [this]; exact h2

set_option maxHeartbeats 1000000 in
theorem Abs_any (q : Rat) (v : Value) (w : World) (h : RatV w v q) (k : Nat) (hq : Fit k q) (hk : k ≤ 4294967296) :
    Calls Tryz.prog 63 #[v] w (RatOut w (absQ q)) := by
  obtain ⟨s, ao, n, cap, bo, m, cap', rfl⟩ := h.shape
  have hr := Res.start ((Below.refl w.heap.size w).alloc (Nat.le_refl _) (.cells #[.bool s, .slice ao n cap, .slice bo m cap'] 25)) false none 0 0 none 0 0 25
  simp only [World.size_alloc] at hr
  obtain ⟨hq1, hq2⟩ := hq
  go_enter Tryz.func63, Tryz.ntmps63
  go_wp2_with fail
  refine (of_any q _ _ (h.next hr.bel)).mono ?_; rintro e w1 ⟨f1, rfl, F1, hb1⟩
  obtain ⟨xo, xn, xc, yo, yn, yc, rfl⟩ := F1.shape
  obtain ⟨sA, sB, zA, zB, nB⟩ := F1.parts
  have hr1 := hr.next hb1
  generalize decide (q.num < 0) = t at *
  go_wp2_with fail
  have hb2 : Below w1.heap.size w1 (w1.alloc (.cells #[.bool false, .slice xo xn xc, .slice yo yn yc] 110)) := below_alloc _
  have hr2 := hr1.next hb2
  refine (rat_any false _ _ _ _ ⟨xo, yo, xn, xc, yn, yc, rfl, sA.next hb2, sB.next hb2, zA, zB, nB⟩ (by omega) (by omega)).mono ?_; rintro e w3 ⟨v3, rfl, C3, hb3⟩
  obtain ⟨rb, ro, rn, rc, so, sn, sc, rfl⟩ := C3.shape
  have hr3 := hr2.next hb3
  obtain ⟨d0, d1, d2, g0, g1, g2, _, _, _, _⟩ := hr2.next hb3
  go_wp2_with fail
  refine bodyPost_ret (v := .agg #[.bool rb, .slice ro rn rc, .slice so sn sc]) (by simp [results, Tryz.results63, go_sem, d0, d1, d2]) rfl ?_
  have := hr3.rc C3
  rw [absQ_mk] at this
  exact this

set_option maxHeartbeats 1000000 in
theorem rAbs_any (q : Rat) (v : Value) (w : World) (h : RatV w v q) : Calls Tryz.prog 32 #[v] w (RatOut w (absQ q)) := by
  obtain ⟨s, ao, n, cap, bo, m, cap', rfl⟩ := h.shape
  have hB := (Bk.start (Below.refl w.heap.size w) rfl (.bool s) (.slice ao n cap) (.slice bo m cap') 25).new (.cells #[.bool false, .slice none 0 0, .slice none 0 0] 25)
  have hG : Bk w (w.heap.size + 1) (.bool false) (.slice none 0 0) (.slice none 0 0) ((w.alloc (.cells #[.bool s, .slice ao n cap, .slice bo m cap'] 25)).alloc (.cells #[.bool false, .slice none 0 0, .slice none 0 0] 25)) := Bk.start (below_alloc _) (by simp) _ _ _ _
  go_enter Tryz.func32, Tryz.ntmps32
  go_wp2_with fail
  refine (rTake_any q _ _ (h.next hB.bel)).mono ?_; rintro e w1 ⟨v1, rfl, C1, hb1⟩
  obtain ⟨rb, ro, rn, rc, so, sn, sc, rfl⟩ := C1.shape
  have hB1 := hB.next hb1
  have hG1 := hG.next hb1
  have c1 := C1.putOther hB1.res (.bool rb) (.slice ro rn rc) (.slice so sn sc)
  have b1 := hB1.put (.bool rb) (.slice ro rn rc) (.slice so sn sc)
  have g1 := hG1.other (by omega) hB1.ge (.bool rb) (.slice ro rn rc) (.slice so sn sc)
  obtain ⟨d0, d1, d2⟩ := hB1.c3
  have f0 := hB1.free 0
  have f1 := hB1.free 1
  have f2 := hB1.free 2
  obtain ⟨e0, e1, e2⟩ := hG1.c3
  have k0 := hG1.free 0
  have k1 := hG1.free 1
  have k2 := hG1.free 2
  clear hB hG hB1 hG1
  have habs := ratC_abs c1
  clear C1 c1
  go_wp2_with fail
  refine bodyPost_ret (v := .agg #[.bool false, .slice ro rn rc, .slice so sn sc]) (by simp [results, Tryz.results32, go_sem, d0, d1, d2, e0, e1, e2]) rfl ?_
  exact (g1.other0 (by omega) b1.ge 0 _).res.rc (habs.other0 b1.res 0 _)

theorem rsg_eq_zero {r : Rat} : rsg r = 0 ↔ r = 0 := by
  unfold rsg sg
  constructor
  · intro h
    split at h
    · cases h
    · split at h
      · exact Rat.num_eq_zero.1 (by assumption)
      · cases h
  · intro h; subst h; rfl

end Go.Proofs.YtgohfieleckmgaaGreatDoor
