/-
  The contracts of the reference's Of and Same and of words.number. No condition but sizes.
-/
import Derived.Test.YteancfcmiiddiaaRefF
namespace Go.Proofs.Yteancfcmiiddiaa
open Go.RowKit
set_option linter.unusedSimpArgs false
set_option linter.unusedVariables false

set_option maxHeartbeats 1000000 in
theorem rOf_any (a d : Int) (h1 : -9223372036854775808 ≤ a) (h2 : a ≤ 9223372036854775807) (h3 : -9223372036854775808 ≤ d) (h4 : d ≤ 9223372036854775807) (w : World) :
    Calls Try.prog 62 #[.int .i64 a, .int .i64 d] w (RatOut w (makeRat a d)) := by
  have hr := Res.start (Below.refl w.heap.size w) false none 0 0 none 0 0 54
  go_enter Try.func62, Try.ntmps62
  go_wp2_with fail
  refine (rMake_any a d h1 h2 h3 h4 _).mono ?_; rintro e w1 ⟨v1, rfl, C1, hb1⟩
  obtain ⟨rb, ro, rn, rc, so, sn, sc, rfl⟩ := C1.shape
  have hr1 := (hr.next hb1).new (.cells #[.bool rb, .slice ro rn rc, .slice so sn sc] 54)
  obtain ⟨d0, d1, d2, g0, g1, g2, _, _, _, _⟩ := hr1
  have hr1 := (hr.next hb1).new (.cells #[.bool rb, .slice ro rn rc, .slice so sn sc] 54)
  go_wp2_with fail
  refine bodyPost_ret (v := .agg #[.bool rb, .slice ro rn rc, .slice so sn sc]) (by simp [results, Try.results62, go_sem, d0, d1, d2]) rfl ?_
  exact hr1.rc (C1.next (below_alloc _))

set_option maxHeartbeats 1000000 in
theorem number_any (a : Int) (h1 : -9223372036854775808 ≤ a) (h2 : a ≤ 9223372036854775807) (w : World) :
    Calls Try.prog 94 #[.int .i64 a] w (RatOut w (a : Rat)) := by
  have hm : makeRat a 1 = (a : Rat) := by
    unfold makeRat; rw [if_neg (by decide)]; grind
  have Hm := hid hm
  clear hm
  have hr := Res.start (Below.refl w.heap.size w) false none 0 0 none 0 0 54
  go_enter Try.func94, Try.ntmps94
  go_wp2_with fail
  refine (Make_any a 1 h1 h2 (by decide) (by decide) _).mono ?_; rintro e w1 ⟨v1, rfl, C1, hb1⟩
  rw [Hm.out] at C1
  obtain ⟨rb, ro, rn, rc, so, sn, sc, rfl⟩ := C1.shape
  have hr1 := (hr.next hb1).new (.cells #[.bool rb, .slice ro rn rc, .slice so sn sc] 54)
  obtain ⟨d0, d1, d2, g0, g1, g2, _, _, _, _⟩ := hr1
  have hr1 := (hr.next hb1).new (.cells #[.bool rb, .slice ro rn rc, .slice so sn sc] 54)
  go_wp2_with fail
  refine bodyPost_ret (v := .agg #[.bool rb, .slice ro rn rc, .slice so sn sc]) (by simp [results, Try.results94, go_sem, d0, d1, d2]) rfl ?_
  exact hr1.rc (C1.next (below_alloc _))

/-- Two rationals' fields. -/
def sameB (s t : Bool) (N M D E : List Nat) : Bool := s == t && (decide (N = M) && decide (D = E))

theorem below_drewNs {B : Nat} {w : World} (n : Nat) : Below B w (w.drewN n) := ⟨rfl, rfl, rfl, Nat.le_refl _, fun _ _ => rfl⟩

set_option maxHeartbeats 1000000 in
theorem rSame_any (s t : Bool) (N M D E : List Nat) (ao bo co eo : Option Addr) (n cap m cap' n2 cap2 m2 cap3 : Nat) (w : World) (hN : Sl w ao n cap (u32s N)) (hD : Sl w bo m cap' (u32s D)) (hM : Sl w co n2 cap2 (u32s M)) (hE : Sl w eo m2 cap3 (u32s E)) :
    Calls Try.prog 59 #[.agg #[.bool s, .slice ao n cap, .slice bo m cap'], .agg #[.bool t, .slice co n2 cap2, .slice eo m2 cap3]] w fun e w' => e = .returned (.bool (sameB s t N M D E)) ∧ Below w.heap.size w w' := by
  have hb0 := ((Below.refl w.heap.size w).alloc (Nat.le_refl _) (.cells #[.bool s, .slice ao n cap, .slice bo m cap'] 54)).alloc (by simp) (.cells #[.bool t, .slice co n2 cap2, .slice eo m2 cap3] 54)
  by_cases hst : s = t
  · subst hst
    have hss : (s == s) = true := by simp
    have hres : Hid (sameB s s N M D E = (decide (N = M) && decide (D = E))) := hid (by unfold sameB; rw [hss]; rfl)
    go_enter Try.func59, Try.ntmps59
    go_wp2_with fail
    refine (same_any N M _ _ _ _ _ _ _ (hN.next hb0) (hM.next hb0)).mono ?_; rintro e w1 ⟨rfl, q1, rfl⟩
    by_cases h1 : N = M
    · have hd : decide (N = M) = true := decide_eq_true h1
      have hres : Hid (sameB s s N M D E = decide (D = E)) := hid (by rw [hres.out, hd]; rfl)
      clear h1
      go_wp2_with fail
      refine (same_any D E _ _ _ _ _ _ _ ((hD.next hb0).drewN q1) ((hE.next hb0).drewN q1)).mono ?_; rintro e w1 ⟨rfl, q2, rfl⟩
      go_wp2_with fail
      go_ret
      exact ⟨retB hres.out.symm, hb0.trans (by go_simp; exact below_drewNs _)⟩
    · have hd : decide (N = M) = false := decide_eq_false h1
      have hres : Hid (sameB s s N M D E = false) := hid (by rw [hres.out, hd]; rfl)
      clear h1
      go_wp2_with fail
      go_ret
      exact ⟨retB hres.out.symm, hb0.trans (by go_simp; exact below_drewNs _)⟩
  · have hss : (s == t) = false := by simpa using hst
    have hres : Hid (sameB s t N M D E = false) := hid (by unfold sameB; rw [hss]; rfl)
    clear hst
    go_enter Try.func59, Try.ntmps59
    go_wp2_with fail
    go_ret
    exact ⟨retB hres.out.symm, hb0⟩

theorem sameC {q r : Rat} : sameB (decide (q.num < 0)) (decide (r.num < 0)) (dig q.num.natAbs) (dig r.num.natAbs) (denL q) (denL r) = decide (q = r) := by
  rw [Bool.eq_iff_iff]
  unfold sameB
  simp only [Bool.and_eq_true, beq_iff_eq, decide_eq_true_eq]
  constructor
  · rintro ⟨h1, h2, h3⟩
    rw [← (canon_ok q).2, ← (canon_ok r).2, h1, h2, h3]
  · rintro rfl
    exact ⟨rfl, rfl, rfl⟩

theorem rSameC (q r : Rat) (v v2 : Value) (w : World) (h : RatC w v q) (h' : RatC w v2 r) :
    Calls Try.prog 59 #[v, v2] w fun e w' => e = .returned (.bool (decide (q = r))) ∧ Below w.heap.size w w' := by
  obtain ⟨ao, bo, n, cap, m, cap', rfl, h1, h2, _⟩ := h
  obtain ⟨co, eo, n2, cap2, m2, cap3, rfl, h3, h4, _⟩ := h'
  have := rSame_any (decide (q.num < 0)) (decide (r.num < 0)) _ _ _ _ ao bo co eo n cap m cap' n2 cap2 m2 cap3 w h1 h2 h3 h4
  rwa [sameC] at this

end Go.Proofs.Yteancfcmiiddiaa
