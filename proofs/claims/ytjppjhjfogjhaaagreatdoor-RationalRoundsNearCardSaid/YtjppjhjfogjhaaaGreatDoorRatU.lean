/-
  The contracts of Up, Abs and the reference's Div. No condition but sizes.
-/
import Derived.Test.YtjppjhjfogjhaaaGreatDoorRatR
namespace Go.Proofs.YtjppjhjfogjhaaaGreatDoor
open Go.RowKit
set_option linter.unusedSimpArgs false
set_option linter.unusedVariables false

theorem fit_downQ {k : Nat} {q : Rat} (h : Fit k q) {b : Nat} (hb : b ≤ 256) : Fit (k + 19) (downQ q b) := by
  have h1 := fit_mul h (fit_pow hb)
  have h2 := fit_div (fit_floor h1) (fit_pow hb)
  rw [down_div]
  exact h2.mono (by omega)

theorem fit_downI {k : Nat} {q : Rat} (h : Fit k q) (i : Int) : Fit (k + 19) (downI q i) := by
  unfold downI
  split
  · exact fit_downQ h (by omega)
  · exact fit_zero (by omega)

/-- Up for any int. -/
def upI (q : Rat) (i : Int) : Rat := -(downI (-q) i)

set_option maxHeartbeats 1000000 in
theorem Up_any (q : Rat) (i : Int) (v : Value) (w : World) (h : RatV w v q) (k : Nat) (hq : Fit k q) (hk : k ≤ 2147483648) :
    Calls Tryz.prog 16 #[v, .int .i64 i] w (RatOut w (upI q i)) := by
  obtain ⟨s, ao, n, cap, bo, m, cap', rfl⟩ := h.shape
  have hr := Res.start ((Below.refl w.heap.size w).alloc (Nat.le_refl _) (.cells #[.bool s, .slice ao n cap, .slice bo m cap'] 24)) false none 0 0 none 0 0 24
  simp only [World.size_alloc] at hr
  go_enter Tryz.func16, Tryz.ntmps16
  go_wp2_with fail
  refine (Neg_any q _ _ (h.next hr.bel) k hq (by omega)).mono ?_; rintro e w1 ⟨v1, rfl, C1, hb1⟩
  have hr1 := hr.next hb1
  go_wp2_with fail
  refine (Down_any (-q) i _ _ (C1.toV (fit_neg hq) (by omega)) k (fit_neg hq) (by omega)).mono ?_; rintro e w2 ⟨v2, rfl, C2, hb2⟩
  have hr2 := hr1.next hb2
  go_wp2_with fail
  have fd := fit_downI (fit_neg hq) i
  refine (Neg_any (downI (-q) i) _ _ (C2.toV fd (by omega)) (k + 19) fd (by omega)).mono ?_; rintro e w3 ⟨v3, rfl, C3, hb3⟩
  obtain ⟨rb, ro, rn, rc, so, sn, sc, rfl⟩ := C3.shape
  have hr3 := hr2.next hb3
  obtain ⟨d0, d1, d2, g0, g1, g2, _, _, _, _⟩ := hr2.next hb3
  go_wp2_with fail
  refine bodyPost_ret (v := .agg #[.bool rb, .slice ro rn rc, .slice so sn sc]) (by simp [results, Tryz.results16, go_sem, d0, d1, d2]) rfl ?_
  exact hr3.rc C3

set_option maxHeartbeats 1000000 in
theorem rUp_any (q : Rat) (i : Int) (v : Value) (w : World) (h : RatV w v q) (k : Nat) (hq : Fit k q) (hk : k ≤ 1073741824) :
    Calls Tryz.prog 17 #[v, .int .i64 i] w (RatOut w (upI q i)) := by
  obtain ⟨s, ao, n, cap, bo, m, cap', rfl⟩ := h.shape
  have hr := Res.start ((Below.refl w.heap.size w).alloc (Nat.le_refl _) (.cells #[.bool s, .slice ao n cap, .slice bo m cap'] 24)) false none 0 0 none 0 0 24
  simp only [World.size_alloc] at hr
  go_enter Tryz.func17, Tryz.ntmps17
  go_wp2_with fail
  refine (rNeg_any q _ _ (h.next hr.bel)).mono ?_; rintro e w1 ⟨v1, rfl, C1, hb1⟩
  have hr1 := hr.next hb1
  go_wp2_with fail
  refine (rDown_any (-q) i _ _ (C1.toV (fit_neg hq) (by omega)) k (fit_neg hq) (by omega)).mono ?_; rintro e w2 ⟨v2, rfl, C2, hb2⟩
  have hr2 := hr1.next hb2
  go_wp2_with fail
  have fd := fit_downI (fit_neg hq) i
  refine (rNeg_any (downI (-q) i) _ _ (C2.toV fd (by omega))).mono ?_; rintro e w3 ⟨v3, rfl, C3, hb3⟩
  obtain ⟨rb, ro, rn, rc, so, sn, sc, rfl⟩ := C3.shape
  have hr3 := hr2.next hb3
  obtain ⟨d0, d1, d2, g0, g1, g2, _, _, _, _⟩ := hr2.next hb3
  go_wp2_with fail
  refine bodyPost_ret (v := .agg #[.bool rb, .slice ro rn rc, .slice so sn sc]) (by simp [results, Tryz.results17, go_sem, d0, d1, d2]) rfl ?_
  exact hr3.rc C3

theorem rLight_any (s : Bool) (ao bo : Option Addr) (n cap m cap' : Nat) (k : Int) (hn : n ≤ 9223372036854775807) (hm : m ≤ 9223372036854775807) (w : World) :
    Calls Tryz.prog 47 #[.agg #[.bool s, .slice ao n cap, .slice bo m cap'], .int .i64 k] w fun e w' => e = .returned (.bool (decide ((n : Int) ≤ k) && decide ((m : Int) ≤ k))) ∧ Below w.heap.size w w' := by
  have hB := Bk.start (Below.refl w.heap.size w) rfl (.bool s) (.slice ao n cap) (.slice bo m cap') 24
  have hS0 := hB.c3
  have hbel := hB.bel
  cases h1 : decide ((n : Int) ≤ k) with
  | false =>
    have h2 : (false && decide ((m : Int) ≤ k)) = false := rfl
    rw [h2]
    go_enter Tryz.func47, Tryz.ntmps47
    go_wp2_with fail
    go_ret
    exact ⟨rfl, hbel⟩
  | true =>
    rw [Bool.true_and]
    go_enter Tryz.func47, Tryz.ntmps47
    go_wp2_with fail
    go_ret
    exact ⟨rfl, hbel⟩

theorem ratOf_fit {neg : Bool} {N D : List Nat} {k : Nat} (hN : Lim N) (hD : Lim D) (h1 : N.length ≤ k) (h2 : D.length ≤ k) (hk : 1 ≤ k) : Fit k (ratOf neg N D) := by
  unfold ratOf
  split
  · refine fit_mk ?_ ?_ hk
    · rw [sgn_abs]
      exact lim_le (Nat.lt_of_lt_of_le (val_lt hN) (Nat.pow_le_pow_right (by decide) h1))
    · split
      · rw [lim_one]; exact hk
      · exact lim_le (Nat.lt_of_lt_of_le (val_lt hD) (Nat.pow_le_pow_right (by decide) h2))
  · exact fit_zero hk

/-- The absolute value. -/
def absQ (q : Rat) : Rat := if q.num < 0 then -q else q

theorem absQ_mk (q : Rat) : mkRat (sgn false q.num.natAbs) q.den = absQ q := by
  unfold absQ sgn
  by_cases h : q.num < 0
  · rw [if_pos h]
    have e : ((q.num.natAbs : Nat) : Int) = -q.num := by omega
    simp only [Bool.false_eq_true, if_false]
    rw [e, ← Rat.neg_mkRat, Rat.mkRat_self]
  · rw [if_neg h]
    have e : ((q.num.natAbs : Nat) : Int) = q.num := by omega
    simp only [Bool.false_eq_true, if_false]
    rw [e, Rat.mkRat_self]

theorem fit_abs {k : Nat} {q : Rat} (h : Fit k q) : Fit k (absQ q) := by
  unfold absQ; split
  · exact fit_neg h
  · exact h

theorem ratC_abs {w : World} {q : Rat} {s : Bool} {ao bo : Option Addr} {n cap m cap' : Nat} (h : RatC w (.agg #[.bool s, .slice ao n cap, .slice bo m cap']) q) : RatC w (.agg #[.bool false, .slice ao n cap, .slice bo m cap']) (absQ q) := by
  obtain ⟨rfl, h1, h2, hz, hz'⟩ := h.parts
  refine ⟨ao, bo, n, cap, m, cap', ?_, ?_, ?_, hz, hz'⟩
  · have : decide ((absQ q).num < 0) = false := by
      apply decide_eq_false
      unfold absQ; split
      · rw [Rat.neg_num]; omega
      · assumption
    rw [this]
  · have : (absQ q).num.natAbs = q.num.natAbs := by
      unfold absQ; split
      · rw [Rat.neg_num, Int.natAbs_neg]
      · rfl
    rw [this]; exact h1
  · have : denL (absQ q) = denL q := by
      unfold absQ denL; split
      · rw [Rat.neg_den]
      · rfl
    rw [this]; exact h2

set_option maxHeartbeats 1000000 in
theorem Abs_any (q : Rat) (v : Value) (w : World) (h : RatV w v q) (k : Nat) (hq : Fit k q) (hk : k ≤ 4294967296) :
    Calls Tryz.prog 45 #[v] w (RatOut w (absQ q)) := by
  obtain ⟨s, ao, n, cap, bo, m, cap', rfl⟩ := h.shape
  have hr := Res.start ((Below.refl w.heap.size w).alloc (Nat.le_refl _) (.cells #[.bool s, .slice ao n cap, .slice bo m cap'] 24)) false none 0 0 none 0 0 24
  simp only [World.size_alloc] at hr
  obtain ⟨hq1, hq2⟩ := hq
  go_enter Tryz.func45, Tryz.ntmps45
  go_wp2_with fail
  refine (of_any q _ _ (h.next hr.bel)).mono ?_; rintro e w1 ⟨f1, rfl, F1, hb1⟩
  obtain ⟨xo, xn, xc, yo, yn, yc, rfl⟩ := F1.shape
  obtain ⟨sA, sB, zA, zB, nB⟩ := F1.parts
  have hr1 := hr.next hb1
  generalize decide (q.num < 0) = t at *
  go_wp2_with fail
  have hb2 : Below w1.heap.size w1 (w1.alloc (.cells #[.bool false, .slice xo xn xc, .slice yo yn yc] 52)) := below_alloc _
  have hr2 := hr1.next hb2
  refine (rat_any false _ _ _ _ ⟨xo, yo, xn, xc, yn, yc, rfl, sA.next hb2, sB.next hb2, zA, zB, nB⟩ (by omega) (by omega)).mono ?_; rintro e w3 ⟨v3, rfl, C3, hb3⟩
  obtain ⟨rb, ro, rn, rc, so, sn, sc, rfl⟩ := C3.shape
  have hr3 := hr2.next hb3
  obtain ⟨d0, d1, d2, g0, g1, g2, _, _, _, _⟩ := hr2.next hb3
  go_wp2_with fail
  refine bodyPost_ret (v := .agg #[.bool rb, .slice ro rn rc, .slice so sn sc]) (by simp [results, Tryz.results45, go_sem, d0, d1, d2]) rfl ?_
  have := hr3.rc C3
  rw [absQ_mk] at this
  exact this

set_option maxHeartbeats 1000000 in
theorem rAbs_any (q : Rat) (v : Value) (w : World) (h : RatV w v q) : Calls Tryz.prog 46 #[v] w (RatOut w (absQ q)) := by
  obtain ⟨s, ao, n, cap, bo, m, cap', rfl⟩ := h.shape
  have hB := (Bk.start (Below.refl w.heap.size w) rfl (.bool s) (.slice ao n cap) (.slice bo m cap') 24).new (.cells #[.bool false, .slice none 0 0, .slice none 0 0] 24)
  have hG : Bk w (w.heap.size + 1) (.bool false) (.slice none 0 0) (.slice none 0 0) ((w.alloc (.cells #[.bool s, .slice ao n cap, .slice bo m cap'] 24)).alloc (.cells #[.bool false, .slice none 0 0, .slice none 0 0] 24)) := Bk.start (below_alloc _) (by simp) _ _ _ _
  go_enter Tryz.func46, Tryz.ntmps46
  go_wp2_with fail
  refine (rTake_any q _ _ (h.next hB.bel)).mono ?_; rintro e w1 ⟨v1, rfl, C1, hb1⟩
  obtain ⟨rb, ro, rn, rc, so, sn, sc, rfl⟩ := C1.shape
  have hB1 := hB.next hb1
  have hG1 := hG.next hb1
  have c1 := C1.putOther hB1.res (.bool rb) (.slice ro rn rc) (.slice so sn sc)
  have b1 := hB1.put (.bool rb) (.slice ro rn rc) (.slice so sn sc)
  have g1 := hG1.other (by omega) hB1.ge (.bool rb) (.slice ro rn rc) (.slice so sn sc)
  obtain ⟨d0, d1, d2⟩ := hB1.c3
  have f0 := hB1.free 0
  have f1 := hB1.free 1
  have f2 := hB1.free 2
  obtain ⟨e0, e1, e2⟩ := hG1.c3
  have k0 := hG1.free 0
  have k1 := hG1.free 1
  have k2 := hG1.free 2
  clear hB hG hB1 hG1
  have habs := ratC_abs c1
  clear C1 c1
  go_wp2_with fail
  refine bodyPost_ret (v := .agg #[.bool false, .slice ro rn rc, .slice so sn sc]) (by simp [results, Tryz.results46, go_sem, d0, d1, d2, e0, e1, e2]) rfl ?_
  exact (g1.other0 (by omega) b1.ge 0 _).res.rc (habs.other0 b1.res 0 _)

theorem rsg_eq_zero {r : Rat} : rsg r = 0 ↔ r = 0 := by
  unfold rsg sg
  constructor
  · intro h
    split at h
    · cases h
    · split at h
      · exact Rat.num_eq_zero.1 (by assumption)
      · cases h
  · intro h; subst h; rfl

set_option maxHeartbeats 1000000 in
theorem rDiv_any (q r : Rat) (v v2 : Value) (w : World) (h : RatV w v q) (h' : RatV w v2 r) (k : Nat) (hq : Fit k q) (hr' : Fit k r) (hk : k ≤ 4294967296) :
    Calls Tryz.prog 26 #[v, v2] w (RatOut2 w (q / r) (divErr r)) := by
  obtain ⟨s, ao, n, cap, bo, m, cap', rfl⟩ := h.shape
  obtain ⟨t, co, n2, cap2, eo, m2, cap3, rfl⟩ := h'.shape
  have hX := ((Bk.start (Below.refl w.heap.size w) rfl (.bool s) (.slice ao n cap) (.slice bo m cap') 24).new (.cells #[.bool t, .slice co n2 cap2, .slice eo m2 cap3] 24)).new (.cells #[.bool false, .slice none 0 0, .slice none 0 0] 24)
  have hY : Bk w (w.heap.size + 1) (.bool t) (.slice co n2 cap2) (.slice eo m2 cap3) (((w.alloc (.cells #[.bool s, .slice ao n cap, .slice bo m cap'] 24)).alloc (.cells #[.bool t, .slice co n2 cap2, .slice eo m2 cap3] 24)).alloc (.cells #[.bool false, .slice none 0 0, .slice none 0 0] 24)) := (Bk.start (below_alloc _) (by simp) _ _ _ _).new _
  have hG : Bk w (w.heap.size + 1 + 1) (.bool false) (.slice none 0 0) (.slice none 0 0) (((w.alloc (.cells #[.bool s, .slice ao n cap, .slice bo m cap'] 24)).alloc (.cells #[.bool t, .slice co n2 cap2, .slice eo m2 cap3] 24)).alloc (.cells #[.bool false, .slice none 0 0, .slice none 0 0] 24)) := Bk.start ((below_alloc _).alloc (by simp) _) (by simp) _ _ _ _
  by_cases hr0 : r = 0
  · subst hr0
    have e1 : Hid (divErr 0 = 11) := hid (if_pos rfl)
    have e2 : Hid (q / 0 = 0) := hid (by grind)
    have e3 : rsg 0 = 0 := rfl
    go_enter Tryz.func26, Tryz.ntmps26
    go_wp2_with fail
    refine (rSign_any 0 _ _ (h'.next hX.bel)).mono ?_; rintro e w1 ⟨rfl, hb1⟩
    rw [e3]
    clear e3
    obtain ⟨d0, d1, d2⟩ := (hG.next hb1).c3
    have f0 := (hG.next hb1).free 0
    have f1 := (hG.next hb1).free 1
    have f2 := (hG.next hb1).free 2
    go_wp2_with fail
    refine bodyPost_ret (v := .tuple #[.agg #[.bool false, .slice none 0 0, .slice none 0 0], .int .i64 11]) (by simp [results, Tryz.results26, go_sem, d0, d1, d2]) rfl ?_
    rw [e1.out, e2.out]
    exact ((hG.next hb1).res.rc (ratC_zero _)).two 11
  · have e1 : Hid (divErr r = 0) := hid (if_neg hr0)
    obtain ⟨c, hc⟩ : ∃ c, rsg r = c := ⟨_, rfl⟩
    have hc0 : (c == 0) = false := by
      rw [← hc]; simpa using fun h => hr0 (rsg_eq_zero.1 h)
    have Hc := hid hc
    clear hc
    go_enter Tryz.func26, Tryz.ntmps26
    go_wp2_with fail
    refine (rSign_any r _ _ (h'.next hX.bel)).mono ?_; rintro e w1 ⟨rfl, hb1⟩
    rw [Hc.out]
    obtain ⟨x0, x1, x2⟩ := (hX.next hb1).c3
    obtain ⟨y0, y1, y2⟩ := (hY.next hb1).c3
    go_wp2_with fail
    refine (rQuo_any q r hr0 _ _ _ (h.next (hX.next hb1).bel) (h'.next (hX.next hb1).bel) k hq hr' hk).mono ?_; rintro e w2 ⟨v2, rfl, C2, hb2⟩
    obtain ⟨rb, ro, rn, rc, so, sn, sc, rfl⟩ := C2.shape
    have hG2 := (hG.next hb1).next hb2
    obtain ⟨d0, d1, d2⟩ := hG2.c3
    have f0 := hG2.free 0
    have f1 := hG2.free 1
    have f2 := hG2.free 2
    go_wp2_with fail
    refine bodyPost_ret (v := .tuple #[.agg #[.bool rb, .slice ro rn rc, .slice so sn sc], .int .i64 0]) (by simp [results, Tryz.results26, go_sem, d0, d1, d2]) rfl ?_
    rw [e1.out]
    exact (hG2.res.rc C2).two 0

end Go.Proofs.YtjppjhjfogjhaaaGreatDoor
