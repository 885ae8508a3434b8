/-
  The contracts of rational.Neg, Sign, Compare. No condition but sizes.
-/
import Derived.Test.YteancfcmiiddiaaRatE
import Derived.Test.YteancfcmiiddiaaRefA
namespace Go.Proofs.Yteancfcmiiddiaa
open Go.RowKit
set_option linter.unusedSimpArgs false
set_option linter.unusedVariables false

set_option maxHeartbeats 1000000 in
theorem Neg_any (q : Rat) (v : Value) (w : World) (h : RatV w v q) (k : Nat) (hq : Fit k q) (hk : k ≤ 4294967296) :
    Calls Try.prog 123 #[v] w (RatOut w (-q)) := by
  obtain ⟨s, ao, n, cap, bo, m, cap', rfl⟩ := h.shape
  have hr := Res.start ((Below.refl w.heap.size w).alloc (Nat.le_refl _) (.cells #[.bool s, .slice ao n cap, .slice bo m cap'] 54)) false none 0 0 none 0 0 54
  simp only [World.size_alloc] at hr
  obtain ⟨hq1, hq2⟩ := hq
  go_enter Try.func123, Try.ntmps123
  go_wp2_with fail
  refine (of_any q _ _ (h.next hr.bel)).mono ?_; rintro e w1 ⟨f1, rfl, F1, hb1⟩
  have hr1 := hr.next hb1
  go_wp2_with fail
  refine (negative_any _ _ _ _ _ F1).mono ?_; rintro e w2 ⟨f2, rfl, F2, hb2⟩
  have hr2 := hr1.next hb2
  go_wp2_with fail
  refine (rat_any _ _ _ _ _ F2 (by omega) (by omega)).mono ?_; rintro e w3 ⟨v3, rfl, C3, hb3⟩
  obtain ⟨rb, ro, rn, rc, so, sn, sc, rfl⟩ := C3.shape
  have hr3 := hr2.next hb3
  obtain ⟨d0, d1, d2, g0, g1, g2, _, _, _, _⟩ := hr2.next hb3
  go_wp2_with fail
  refine bodyPost_ret (v := .agg #[.bool rb, .slice ro rn rc, .slice so sn sc]) (by simp [results, Try.results123, go_sem, d0, d1, d2]) rfl ?_
  have := hr3.rc C3
  rw [sgn_not, sgn_num, ← Rat.neg_mkRat, Rat.mkRat_self] at this
  exact this

/-- The sign of a rational. -/
def rsg (q : Rat) : Int := sg q.num

set_option maxHeartbeats 1000000 in
theorem Sign_any (q : Rat) (v : Value) (w : World) (h : RatV w v q) :
    Calls Try.prog 96 #[v] w fun e w' => e = .returned (.int .i64 (rsg q)) ∧ Below w.heap.size w w' := by
  obtain ⟨s, ao, n, cap, bo, m, cap', rfl⟩ := h.shape
  have hb0 := below_alloc (w := w) (.cells #[.bool s, .slice ao n cap, .slice bo m cap'] 54)
  go_enter Try.func96, Try.ntmps96
  go_wp2_with fail
  refine (of_any q _ _ (h.next hb0)).mono ?_; rintro e w1 ⟨f1, rfl, ⟨fo, go, fn, fc, gn, gc, rfl, sf, sg', hzf, hzg, hd0⟩, hb1⟩
  have hbel : Below w.heap.size w w1 := below_chain hb0 hb1
  have hl := sf.lenU
  have hbel2 := fun o => hbel.alloc hbel.size o
  rcases Int.lt_trichotomy q.num 0 with hlt | heq | hgt
  · have hr : rsg q = -1 := by unfold rsg sg; rw [if_pos hlt]
    have hd : decide (q.num < 0) = true := decide_eq_true hlt
    have hf : 1 ≤ fn := by
      cases fn with
      | zero => exact absurd (List.eq_nil_of_length_eq_zero hl) (fun h => by have := dig_nil.1 h; omega)
      | succ n => omega
    have Hl := hid hl; clear hl
    rw [hd]
    have Hr := hid hr
    clear hr hd hlt
    go_wp2_with fail
    go_ret
    exact ⟨retI Hr.out.symm, hbel2 _⟩
  · have hr : rsg q = 0 := by unfold rsg sg; rw [heq]; rfl
    have hd : decide (q.num < 0) = false := by rw [heq]; rfl
    rw [heq, show Int.natAbs 0 = 0 from rfl, dig_zero] at hl
    have hf : fn = 0 := by simpa using hl.symm
    subst hf
    rw [hd]
    have Hr := hid hr
    clear hr hd heq hl
    go_wp2_with fail
    go_ret
    exact ⟨retI Hr.out.symm, hbel2 _⟩
  · have hr : rsg q = 1 := by unfold rsg sg; rw [if_neg (by omega), if_neg (by omega)]
    have hd : decide (q.num < 0) = false := decide_eq_false (by omega)
    have hf : 1 ≤ fn := by
      cases fn with
      | zero => exact absurd (List.eq_nil_of_length_eq_zero hl) (fun h => by have := dig_nil.1 h; omega)
      | succ n => omega
    have Hl := hid hl; clear hl
    rw [hd]
    have Hr := hid hr
    clear hr hd hgt
    go_wp2_with fail
    go_ret
    exact ⟨retI Hr.out.symm, hbel2 _⟩

set_option maxHeartbeats 1000000 in
theorem Compare_any (q r : Rat) (v v2 : Value) (w : World) (h : RatV w v q) (h' : RatV w v2 r) (k : Nat) (hq : Fit k q) (hr' : Fit k r) (hk : k ≤ 4294967296) :
    Calls Try.prog 97 #[v, v2] w fun e w' => e = .returned (.int .i64 (rsg (q - r))) ∧ Below w.heap.size w w' := by
  obtain ⟨s, ao, n, cap, bo, m, cap', rfl⟩ := h.shape
  obtain ⟨t, co, n2, cap2, eo, m2, cap3, rfl⟩ := h'.shape
  have hb0 := ((Below.refl w.heap.size w).alloc (Nat.le_refl _) (.cells #[.bool s, .slice ao n cap, .slice bo m cap'] 54)).alloc (by simp) (.cells #[.bool t, .slice co n2 cap2, .slice eo m2 cap3] 54)
  have hs := fit_sub hq hr'
  go_enter Try.func97, Try.ntmps97
  go_wp2_with fail
  refine (Sub_any q r _ _ _ (h.next hb0) (h'.next hb0) k hq hr' hk).mono ?_; rintro e w1 ⟨v1, rfl, C1, hb1⟩
  have hbel := below_chain hb0 hb1
  go_wp2_with fail
  refine (Sign_any _ _ _ (C1.toV hs (by omega))).mono ?_; rintro e w2 ⟨rfl, hb2⟩
  have hbel2 := below_chain hbel hb2
  go_wp2_with fail
  go_ret
  exact ⟨rfl, hbel2⟩

end Go.Proofs.Yteancfcmiiddiaa
