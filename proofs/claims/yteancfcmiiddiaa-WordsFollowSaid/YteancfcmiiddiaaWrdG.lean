/-
  The walk of WordsFollow. No condition.
-/
import Derived.Test.YteancfcmiiddiaaWrdF
namespace Go.Proofs.Yteancfcmiiddiaa
open Go.RowKit
set_option linter.unusedSimpArgs false
set_option linter.unusedVariables false

set_option maxHeartbeats 2000000 in
theorem walkFollow (w : World) (v : List Int) (ao : Option Addr) (n cap : Nat) (hV : Sl w ao n cap (i64s v)) (hv : (ao = none → cap = 0) ∧ ∀ z ∈ v, -9223372036854775808 ≤ z ∧ z ≤ 9223372036854775807)
    (u : List Int) (bo : Option Addr) (m cap' : Nat) (hU : Sl w bo m cap' (i64s u)) (hu : (bo = none → cap' = 0) ∧ ∀ z ∈ u, -9223372036854775808 ≤ z ∧ z ≤ 9223372036854775807) (s : Int) {p : Prop} (_ : p) :
    Calls Try.prog 7 #[.slice ao n cap, .slice bo m cap', .int .i64 s] w fun e w' => e = .returned (.bool true) ∧ Below w.heap.size w w' := by
  have hn := hV.bound
  have hm := hU.bound
  obtain ⟨hza, _⟩ := hv
  clear hu
  cases h1 : lightW n with
  | false =>
    have H1 := hid h1; clear h1
    go_enter Try.func7, Try.ntmps7
    go_wp2_with fail
    refine (wlight_any ao n cap hn _).mono ?_; rintro e w1 ⟨rfl, rfl⟩
    rw [H1.out]
    go_wp2_with fail
    refine (wawake_any _).mono ?_; rintro e w1 ⟨rfl, hb⟩
    go_wp2_with fail
    go_ret
    exact ⟨rfl, hb⟩
  | true =>
    have H1 := hid h1; clear h1
    cases h2 : lightW m with
    | false =>
      have H2 := hid h2; clear h2
      go_enter Try.func7, Try.ntmps7
      go_wp2_with fail
      refine (wlight_any ao n cap hn _).mono ?_; rintro e w1 ⟨rfl, rfl⟩
      rw [H1.out]
      go_wp2_with fail
      refine (wlight_any bo m cap' hm _).mono ?_; rintro e w1 ⟨rfl, rfl⟩
      rw [H2.out]
      go_wp2_with fail
      refine (wawake_any _).mono ?_; rintro e w1 ⟨rfl, hb⟩
      go_wp2_with fail
      go_ret
      exact ⟨rfl, hb⟩
    | true =>
      have H2 := hid h2; clear h2
      go_enter Try.func7, Try.ntmps7
      go_wp2_with fail
      refine (wlight_any ao n cap hn _).mono ?_; rintro e w1 ⟨rfl, rfl⟩
      rw [H1.out]
      go_wp2_with fail
      refine (wlight_any bo m cap' hm _).mono ?_; rintro e w1 ⟨rfl, rfl⟩
      rw [H2.out]
      go_wp2_with fail
      refine (wNext_any v s _ _ _ _ hV).mono ?_; rintro e w1 ⟨xo, xn, xc, rfl, sX, _, hb1⟩
      go_wp2_with fail
      refine (rwNext_any v s _ _ _ _ (hV.next hb1) hza).mono ?_; rintro e w2 ⟨yo, yn, yc, rfl, sY, _, hb2⟩
      have sX := sX.next hb2
      go_wp2_with fail
      refine (wawake_any _).mono ?_; rintro e w3 ⟨rfl, hb3⟩
      have hb := below_chain (below_chain hb1 hb2) hb3
      have sX := sX.next hb3
      have sY := sY.next hb3
      generalize nextRes v s = R at *
      generalize nextErr v s = c at *
      go_wp2_with fail
      refine (wValid_any v s _ _ _ _ (hV.next hb)).mono ?_; rintro e w4 ⟨rfl, rfl⟩
      go_wp2_with fail
      refine (rwValid_any v s _ _ _ _ (hV.next hb)).mono ?_; rintro e w4 ⟨rfl, rfl⟩
      generalize okW v s = o
      have ho : (o == o) = true := by simp
      go_wp2_with fail
      refine (wCompare_any v u _ _ _ _ _ _ _ (hV.next hb) (hU.next hb)).mono ?_; rintro e w4 ⟨rfl, hb4⟩
      have hb' := below_chain hb hb4
      have sX := sX.next hb4
      have sY := sY.next hb4
      go_wp2_with fail
      refine (rwCompare_any v u _ _ _ _ _ _ _ (hV.next hb') (hU.next hb')).mono ?_; rintro e w5 ⟨rfl, q5, rfl⟩
      generalize cmpW v u = d
      have hd : (d == d) = true := by simp
      go_wp2_with fail
      refine (rwSame_any R R _ _ _ _ _ _ _ (sX.drewN q5) (sY.drewN q5)).mono ?_; rintro e w6 ⟨rfl, q6, rfl⟩
      rw [show decide (R = R) = true from decide_eq_true rfl]
      have hc : (c == c) = true := by simp
      go_wp2_with fail
      go_ret
      exact ⟨retB (by simp), hb'.trans (by go_simp; exact below_drewNs _)⟩

end Go.Proofs.Yteancfcmiiddiaa
