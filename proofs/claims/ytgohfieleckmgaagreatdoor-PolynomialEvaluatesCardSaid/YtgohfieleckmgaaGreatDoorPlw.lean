/-
  The walks of the statements PolynomialStars, PolynomialIsARing, PolynomialStarSolves, PolynomialCalculates. No condition but the table of powers of ten.
-/
import Derived.Test.YtgohfieleckmgaaGreatDoorPlkS
namespace Go.Proofs.YtgohfieleckmgaaGreatDoor
open Go.RowKit
set_option linter.unusedSimpArgs false
set_option linter.unusedVariables false

/-- A polynomial in memory, its length told apart. -/
def PN (w : World) (ao : Option Addr) (n cap : Nat) (P : Pl) : Prop := (lst P).length = n ∧ PolC w ao cap P
theorem PN.next {w w' : World} {ao : Option Addr} {n cap : Nat} {P : Pl} (h : PN w ao n cap P) (hb : Below w.heap.size w w') : PN w' ao n cap P := ⟨h.1, h.2.next hb⟩
theorem PN.V {w : World} {ao : Option Addr} {n cap k : Nat} {P : Pl} (h : PN w ao n cap P) (hf : FitP k P) (hk : k ≤ 17179869184) : PolV w (.slice ao n cap) P := by
  have := h.2.toV hf hk
  rwa [h.1] at this
theorem PolOut.pn {w w' : World} {P : Pl} {e : Ending} (h : PolOut w P e w') : ∃ ao n cap, e = .returned (.slice ao n cap) ∧ PN w' ao n cap P ∧ Below w.heap.size w w' := by
  obtain ⟨ao, cap, h1, h2, h3⟩ := h
  exact ⟨ao, _, cap, h1, ⟨rfl, h2⟩, h3⟩
theorem StarOut.pn {w w' : World} {P : Pl} {c : Int} {e : Ending} (h : StarOut w P c e w') : ∃ ao n cap, e = .returned (.tuple #[.slice ao n cap, .int .i64 c]) ∧ PN w' ao n cap P ∧ Below w.heap.size w w' := by
  obtain ⟨ao, cap, h1, h2, h3⟩ := h
  exact ⟨ao, _, cap, h1, ⟨rfl, h2⟩, h3⟩
theorem rPSameE (P Q : Pl) (he : EqP P Q) (ao : Option Addr) (n cap : Nat) (bo : Option Addr) (n' cap' : Nat) (w : World) (h : PN w ao n cap P) (h' : PN w bo n' cap' Q) :
    Calls Tryz.prog 16 #[.slice ao n cap, .slice bo n' cap'] w fun e w' => e = .returned (.bool true) ∧ Below w.heap.size w w' := by
  have h1 : (lst P).length = n' := by rw [lst_congr he]; exact h'.1
  have h2 : PolC w bo cap' P := h'.2.congr he.symm
  have := rPSameC P ao cap bo cap' w h.2 h2
  rw [h.1] at this
  obtain rfl : n = n' := h.1.symm.trans h1
  exact this
theorem rSameE (q r : Rat) (hqr : q = r) (v v2 : Value) (w : World) (h : RatC w v q) (h' : RatC w v2 r) :
    Calls Tryz.prog 23 #[v, v2] w fun e w' => e = .returned (.bool true) ∧ Below w.heap.size w w' := by
  subst hqr
  refine (rSameC q q _ _ _ h h').mono ?_
  rintro e w' ⟨rfl, hb⟩
  exact ⟨by rw [decide_eq_true rfl], hb⟩
theorem polV_nil (w : World) : PolV w (.slice none 0 0) (fun _ => 0) := ⟨none, 0, 0, [], rfl, Pol.nil _ _, fun e _ => by rw [show polOf [] = cof ([].map fromM) from rfl]; rfl⟩
theorem fit_scale {k l kk : Nat} {P : Pl} {q : Rat} (hP : FitP k P) (hq : Fit l q) (h : k + l ≤ kk) : FitP kk (mulP P (constP q)) := fun e he => by
  rw [mulP_const P q e he]
  exact (fit_mul (hP e he) hq).mono h
theorem rneg1_any (w : World) : Calls Tryz.prog 30 #[.int .i64 (-1), .int .i64 1] w (RatOut w (-1)) := by
  have := rOf_any (-1) 1 (by decide) (by decide) (by decide) (by decide) w
  rwa [show makeRat (-1) 1 = -1 by decide +kernel] at this
theorem minus_zero (P : Pl) : EqP (addP P (mulP P (constP (-1)))) fun _ => 0 := fun e he => by
  show P e + mulP P (constP (-1)) e = 0
  rw [mulP_const P (-1) e he]; grind

set_option maxHeartbeats 8000000 in
set_option maxRecDepth 100000 in
theorem walkRing (w : World) (hp : Pow w) (l0 : List Int) (a0 : Option Addr) (m0 k0 : Nat) (h0 : Sl w a0 m0 k0 (l0.map (.int .i64))) (hz0 : a0 = none → k0 = 0) (hl0 : ∀ z ∈ l0, -9223372036854775808 ≤ z ∧ z ≤ 9223372036854775807) (l1 : List Int) (a1 : Option Addr) (m1 k1 : Nat) (h1 : Sl w a1 m1 k1 (l1.map (.int .i64))) (hz1 : a1 = none → k1 = 0) (hl1 : ∀ z ∈ l1, -9223372036854775808 ≤ z ∧ z ≤ 9223372036854775807) (l2 : List Int) (a2 : Option Addr) (m2 k2 : Nat) (h2 : Sl w a2 m2 k2 (l2.map (.int .i64))) (hz2 : a2 = none → k2 = 0) (hl2 : ∀ z ∈ l2, -9223372036854775808 ≤ z ∧ z ≤ 9223372036854775807) :
    Calls Tryz.prog 5 #[.slice a0 m0 k0, .slice a1 m1 k1, .slice a2 m2 k2] w fun e w' => e = .returned (.bool true) ∧ Below w.heap.size w w' := by
  have HP := hp
  have HB := Below.refl w.heap.size w
  go_enter Tryz.func5, Tryz.ntmps5
  go_wp2_with fail
  refine (poly_any l0 hl0 a0 m0 k0 _ h0).mono ?_; intro e wx1 hx1; obtain ⟨o1, n1, c1, rfl, N1, hb1⟩ := hx1.pn
  have f1 : FitP 9 (madeP l0) := fit_madeP l0
  replace h1 := h1.next hb1
  replace h2 := h2.next hb1
  replace HP := HP.next hb1
  replace HB := below_chain HB hb1
  clear hb1
  go_wp2_with fail
  refine (poly_any l1 hl1 a1 m1 k1 _ h1).mono ?_; intro e wx2 hx2; obtain ⟨o2, n2, c2, rfl, N2, hb2⟩ := hx2.pn
  have f2 : FitP 9 (madeP l1) := fit_madeP l1
  replace h2 := h2.next hb2
  replace HP := HP.next hb2
  replace N1 := N1.next hb2
  replace HB := below_chain HB hb2
  clear hb2
  go_wp2_with fail
  refine (poly_any l2 hl2 a2 m2 k2 _ h2).mono ?_; intro e wx3 hx3; obtain ⟨o3, n3, c3, rfl, N3, hb3⟩ := hx3.pn
  have f3 : FitP 9 (madeP l2) := fit_madeP l2
  replace HP := HP.next hb3
  replace N1 := N1.next hb3
  replace N2 := N2.next hb3
  replace HB := below_chain HB hb3
  clear hb3
  go_wp2_with fail
  refine (rone_any _).mono ?_; rintro e wx4 ⟨v4, rfl, C4, hb4⟩
  obtain ⟨ra4, rb4, rc4, rd4, re4, rf4, rg4, rfl⟩ := C4.shape6
  have f4 : Fit 1 (1 : Rat) := fit1
  replace HP := HP.next hb4
  replace N1 := N1.next hb4
  replace N2 := N2.next hb4
  replace N3 := N3.next hb4
  replace HB := below_chain HB hb4
  clear hb4
  go_wp2_with fail
  refine (pConst_any 1 _ _ (C4.toV f4 (by decide)) 1 f4 (by decide)).mono ?_; intro e wx5 hx5; obtain ⟨o5, n5, c5, rfl, N5, hb5⟩ := hx5.pn
  have f5 : FitP 1 (constP 1) := fitP_const f4
  replace HP := HP.next hb5
  replace N1 := N1.next hb5
  replace N2 := N2.next hb5
  replace N3 := N3.next hb5
  replace HB := below_chain HB hb5
  clear hb5 C4
  go_wp2_with fail
  refine (lpawake_any _ HP).mono ?_; rintro e wx6 ⟨rfl, hb6⟩
  replace N1 := N1.next hb6
  replace N2 := N2.next hb6
  replace N3 := N3.next hb6
  replace N5 := N5.next hb6
  replace HB := below_chain HB hb6
  clear hb6
  go_wp2_with fail
  refine (pAdd_any (madeP l0) (madeP l1) _ _ _ (N1.V f1 (by decide)) (N2.V f2 (by decide)) 9 f1 f2 (by decide)).mono ?_; intro e wx7 hx7; obtain ⟨o7, n7, c7, rfl, N7, hb7⟩ := hx7.pn
  have f7 : FitP 19 (addP (madeP l0) (madeP l1)) := FitP.add f1 f2
  replace N1 := N1.next hb7
  replace N2 := N2.next hb7
  replace N3 := N3.next hb7
  replace N5 := N5.next hb7
  replace HB := below_chain HB hb7
  clear hb7
  go_wp2_with fail
  refine (pAdd_any (madeP l1) (madeP l0) _ _ _ (N2.V f2 (by decide)) (N1.V f1 (by decide)) 9 f2 f1 (by decide)).mono ?_; intro e wx8 hx8; obtain ⟨o8, n8, c8, rfl, N8, hb8⟩ := hx8.pn
  have f8 : FitP 19 (addP (madeP l1) (madeP l0)) := FitP.add f2 f1
  replace N1 := N1.next hb8
  replace N2 := N2.next hb8
  replace N3 := N3.next hb8
  replace N5 := N5.next hb8
  replace N7 := N7.next hb8
  replace HB := below_chain HB hb8
  clear hb8
  go_wp2_with fail
  refine (rPSameE (addP (madeP l0) (madeP l1)) (addP (madeP l1) (madeP l0)) (fun e _ => Rat.add_comm _ _) _ _ _ _ _ _ _ N7 N8).mono ?_; rintro e wx9 ⟨rfl, hb9⟩
  replace N1 := N1.next hb9
  replace N2 := N2.next hb9
  replace N3 := N3.next hb9
  replace N5 := N5.next hb9
  replace HB := below_chain HB hb9
  clear hb9 N7 N8
  go_wp2_with fail
  refine (pMul_any (madeP l0) (madeP l1) _ _ _ (N1.V f1 (by decide)) (N2.V f2 (by decide)) 9 9 56 f1 f2 (.inl (len_lst _)) (by decide)).mono ?_; intro e wx10 hx10; obtain ⟨o10, n10, c10, rfl, N10, hb10⟩ := hx10.pn
  have f10 : FitP 1084 (mulP (madeP l0) (madeP l1)) := (fit_mulP f1 f2 (.inl (len_lst _))).mono (by decide)
  replace N1 := N1.next hb10
  replace N2 := N2.next hb10
  replace N3 := N3.next hb10
  replace N5 := N5.next hb10
  replace HB := below_chain HB hb10
  clear hb10
  go_wp2_with fail
  refine (pMul_any (madeP l1) (madeP l0) _ _ _ (N2.V f2 (by decide)) (N1.V f1 (by decide)) 9 9 56 f2 f1 (.inl (len_lst _)) (by decide)).mono ?_; intro e wx11 hx11; obtain ⟨o11, n11, c11, rfl, N11, hb11⟩ := hx11.pn
  have f11 : FitP 1084 (mulP (madeP l1) (madeP l0)) := (fit_mulP f2 f1 (.inl (len_lst _))).mono (by decide)
  replace N1 := N1.next hb11
  replace N2 := N2.next hb11
  replace N3 := N3.next hb11
  replace N5 := N5.next hb11
  replace N10 := N10.next hb11
  replace HB := below_chain HB hb11
  clear hb11
  go_wp2_with fail
  refine (rPSameE (mulP (madeP l0) (madeP l1)) (mulP (madeP l1) (madeP l0)) (by rw [mulP_comm]; exact EqP.refl _) _ _ _ _ _ _ _ N10 N11).mono ?_; rintro e wx12 ⟨rfl, hb12⟩
  replace N1 := N1.next hb12
  replace N2 := N2.next hb12
  replace N3 := N3.next hb12
  replace N5 := N5.next hb12
  replace HB := below_chain HB hb12
  clear hb12 N10 N11
  go_wp2_with fail
  refine (pAdd_any (madeP l0) (madeP l1) _ _ _ (N1.V f1 (by decide)) (N2.V f2 (by decide)) 9 f1 f2 (by decide)).mono ?_; intro e wx13 hx13; obtain ⟨o13, n13, c13, rfl, N13, hb13⟩ := hx13.pn
  have f13 : FitP 19 (addP (madeP l0) (madeP l1)) := FitP.add f1 f2
  replace N1 := N1.next hb13
  replace N2 := N2.next hb13
  replace N3 := N3.next hb13
  replace N5 := N5.next hb13
  replace HB := below_chain HB hb13
  clear hb13
  go_wp2_with fail
  refine (pAdd_any (addP (madeP l0) (madeP l1)) (madeP l2) _ _ _ (N13.V f13 (by decide)) (N3.V f3 (by decide)) 19 f13 (f3.mono (by decide)) (by decide)).mono ?_; intro e wx14 hx14; obtain ⟨o14, n14, c14, rfl, N14, hb14⟩ := hx14.pn
  have f14 : FitP 29 (addP (addP (madeP l0) (madeP l1)) (madeP l2)) := FitP.add f13 f3
  replace N1 := N1.next hb14
  replace N2 := N2.next hb14
  replace N3 := N3.next hb14
  replace N5 := N5.next hb14
  replace HB := below_chain HB hb14
  clear hb14 N13
  go_wp2_with fail
  refine (pAdd_any (madeP l1) (madeP l2) _ _ _ (N2.V f2 (by decide)) (N3.V f3 (by decide)) 9 f2 f3 (by decide)).mono ?_; intro e wx15 hx15; obtain ⟨o15, n15, c15, rfl, N15, hb15⟩ := hx15.pn
  have f15 : FitP 19 (addP (madeP l1) (madeP l2)) := FitP.add f2 f3
  replace N1 := N1.next hb15
  replace N2 := N2.next hb15
  replace N3 := N3.next hb15
  replace N5 := N5.next hb15
  replace N14 := N14.next hb15
  replace HB := below_chain HB hb15
  clear hb15
  go_wp2_with fail
  refine (pAdd_any (madeP l0) (addP (madeP l1) (madeP l2)) _ _ _ (N1.V f1 (by decide)) (N15.V f15 (by decide)) 19 (f1.mono (by decide)) f15 (by decide)).mono ?_; intro e wx16 hx16; obtain ⟨o16, n16, c16, rfl, N16, hb16⟩ := hx16.pn
  have f16 : FitP 29 (addP (madeP l0) (addP (madeP l1) (madeP l2))) := FitP.add f1 f15
  replace N1 := N1.next hb16
  replace N2 := N2.next hb16
  replace N3 := N3.next hb16
  replace N5 := N5.next hb16
  replace N14 := N14.next hb16
  replace HB := below_chain HB hb16
  clear hb16 N15
  go_wp2_with fail
  refine (rPSameE (addP (addP (madeP l0) (madeP l1)) (madeP l2)) (addP (madeP l0) (addP (madeP l1) (madeP l2))) (fun e _ => Rat.add_assoc _ _ _) _ _ _ _ _ _ _ N14 N16).mono ?_; rintro e wx17 ⟨rfl, hb17⟩
  replace N1 := N1.next hb17
  replace N2 := N2.next hb17
  replace N3 := N3.next hb17
  replace N5 := N5.next hb17
  replace HB := below_chain HB hb17
  clear hb17 N14 N16
  go_wp2_with fail
  refine (pMul_any (madeP l0) (madeP l1) _ _ _ (N1.V f1 (by decide)) (N2.V f2 (by decide)) 9 9 56 f1 f2 (.inl (len_lst _)) (by decide)).mono ?_; intro e wx18 hx18; obtain ⟨o18, n18, c18, rfl, N18, hb18⟩ := hx18.pn
  have f18 : FitP 1084 (mulP (madeP l0) (madeP l1)) := (fit_mulP f1 f2 (.inl (len_lst _))).mono (by decide)
  replace N1 := N1.next hb18
  replace N2 := N2.next hb18
  replace N3 := N3.next hb18
  replace N5 := N5.next hb18
  replace HB := below_chain HB hb18
  clear hb18
  go_wp2_with fail
  refine (pMul_any (mulP (madeP l0) (madeP l1)) (madeP l2) _ _ _ (N18.V f18 (by decide)) (N3.V f3 (by decide)) 1084 9 56 f18 f3 (.inl (len_lst _)) (by decide)).mono ?_; intro e wx19 hx19; obtain ⟨o19, n19, c19, rfl, N19, hb19⟩ := hx19.pn
  have f19 : FitP 62359 (mulP (mulP (madeP l0) (madeP l1)) (madeP l2)) := (fit_mulP f18 f3 (.inl (len_lst _))).mono (by decide)
  replace N1 := N1.next hb19
  replace N2 := N2.next hb19
  replace N3 := N3.next hb19
  replace N5 := N5.next hb19
  replace HB := below_chain HB hb19
  clear hb19 N18
  go_wp2_with fail
  refine (pMul_any (madeP l1) (madeP l2) _ _ _ (N2.V f2 (by decide)) (N3.V f3 (by decide)) 9 9 56 f2 f3 (.inl (len_lst _)) (by decide)).mono ?_; intro e wx20 hx20; obtain ⟨o20, n20, c20, rfl, N20, hb20⟩ := hx20.pn
  have f20 : FitP 1084 (mulP (madeP l1) (madeP l2)) := (fit_mulP f2 f3 (.inl (len_lst _))).mono (by decide)
  replace N1 := N1.next hb20
  replace N2 := N2.next hb20
  replace N3 := N3.next hb20
  replace N5 := N5.next hb20
  replace N19 := N19.next hb20
  replace HB := below_chain HB hb20
  clear hb20
  go_wp2_with fail
  refine (pMul_any (madeP l0) (mulP (madeP l1) (madeP l2)) _ _ _ (N1.V f1 (by decide)) (N20.V f20 (by decide)) 9 1084 56 f1 f20 (.inl (len_lst _)) (by decide)).mono ?_; intro e wx21 hx21; obtain ⟨o21, n21, c21, rfl, N21, hb21⟩ := hx21.pn
  have f21 : FitP 62359 (mulP (madeP l0) (mulP (madeP l1) (madeP l2))) := (fit_mulP f1 f20 (.inl (len_lst _))).mono (by decide)
  replace N1 := N1.next hb21
  replace N2 := N2.next hb21
  replace N3 := N3.next hb21
  replace N5 := N5.next hb21
  replace N19 := N19.next hb21
  replace HB := below_chain HB hb21
  clear hb21 N20
  go_wp2_with fail
  refine (rPSameE (mulP (mulP (madeP l0) (madeP l1)) (madeP l2)) (mulP (madeP l0) (mulP (madeP l1) (madeP l2))) (mulP_assoc _ _ _) _ _ _ _ _ _ _ N19 N21).mono ?_; rintro e wx22 ⟨rfl, hb22⟩
  replace N1 := N1.next hb22
  replace N2 := N2.next hb22
  replace N3 := N3.next hb22
  replace N5 := N5.next hb22
  replace HB := below_chain HB hb22
  clear hb22 N19 N21
  go_wp2_with fail
  refine (pAdd_any (madeP l1) (madeP l2) _ _ _ (N2.V f2 (by decide)) (N3.V f3 (by decide)) 9 f2 f3 (by decide)).mono ?_; intro e wx23 hx23; obtain ⟨o23, n23, c23, rfl, N23, hb23⟩ := hx23.pn
  have f23 : FitP 19 (addP (madeP l1) (madeP l2)) := FitP.add f2 f3
  replace N1 := N1.next hb23
  replace N2 := N2.next hb23
  replace N3 := N3.next hb23
  replace N5 := N5.next hb23
  replace HB := below_chain HB hb23
  clear hb23
  go_wp2_with fail
  refine (pMul_any (madeP l0) (addP (madeP l1) (madeP l2)) _ _ _ (N1.V f1 (by decide)) (N23.V f23 (by decide)) 9 19 56 f1 f23 (.inl (len_lst _)) (by decide)).mono ?_; intro e wx24 hx24; obtain ⟨o24, n24, c24, rfl, N24, hb24⟩ := hx24.pn
  have f24 : FitP 1654 (mulP (madeP l0) (addP (madeP l1) (madeP l2))) := (fit_mulP f1 f23 (.inl (len_lst _))).mono (by decide)
  replace N1 := N1.next hb24
  replace N2 := N2.next hb24
  replace N3 := N3.next hb24
  replace N5 := N5.next hb24
  replace HB := below_chain HB hb24
  clear hb24 N23
  go_wp2_with fail
  refine (pMul_any (madeP l0) (madeP l1) _ _ _ (N1.V f1 (by decide)) (N2.V f2 (by decide)) 9 9 56 f1 f2 (.inl (len_lst _)) (by decide)).mono ?_; intro e wx25 hx25; obtain ⟨o25, n25, c25, rfl, N25, hb25⟩ := hx25.pn
  have f25 : FitP 1084 (mulP (madeP l0) (madeP l1)) := (fit_mulP f1 f2 (.inl (len_lst _))).mono (by decide)
  replace N1 := N1.next hb25
  replace N3 := N3.next hb25
  replace N5 := N5.next hb25
  replace N24 := N24.next hb25
  replace HB := below_chain HB hb25
  clear hb25 N2
  go_wp2_with fail
  refine (pMul_any (madeP l0) (madeP l2) _ _ _ (N1.V f1 (by decide)) (N3.V f3 (by decide)) 9 9 56 f1 f3 (.inl (len_lst _)) (by decide)).mono ?_; intro e wx26 hx26; obtain ⟨o26, n26, c26, rfl, N26, hb26⟩ := hx26.pn
  have f26 : FitP 1084 (mulP (madeP l0) (madeP l2)) := (fit_mulP f1 f3 (.inl (len_lst _))).mono (by decide)
  replace N1 := N1.next hb26
  replace N5 := N5.next hb26
  replace N24 := N24.next hb26
  replace N25 := N25.next hb26
  replace HB := below_chain HB hb26
  clear hb26 N3
  go_wp2_with fail
  refine (pAdd_any (mulP (madeP l0) (madeP l1)) (mulP (madeP l0) (madeP l2)) _ _ _ (N25.V f25 (by decide)) (N26.V f26 (by decide)) 1084 f25 f26 (by decide)).mono ?_; intro e wx27 hx27; obtain ⟨o27, n27, c27, rfl, N27, hb27⟩ := hx27.pn
  have f27 : FitP 2169 (addP (mulP (madeP l0) (madeP l1)) (mulP (madeP l0) (madeP l2))) := FitP.add f25 f26
  replace N1 := N1.next hb27
  replace N5 := N5.next hb27
  replace N24 := N24.next hb27
  replace HB := below_chain HB hb27
  clear hb27 N25 N26
  go_wp2_with fail
  refine (rPSameE (mulP (madeP l0) (addP (madeP l1) (madeP l2))) (addP (mulP (madeP l0) (madeP l1)) (mulP (madeP l0) (madeP l2))) (by rw [mulP_add]; exact EqP.refl _) _ _ _ _ _ _ _ N24 N27).mono ?_; rintro e wx28 ⟨rfl, hb28⟩
  replace N1 := N1.next hb28
  replace N5 := N5.next hb28
  replace HB := below_chain HB hb28
  clear hb28 N24 N27
  go_wp2_with fail
  refine (pMul_any (madeP l0) (constP 1) _ _ _ (N1.V f1 (by decide)) (N5.V f5 (by decide)) 9 1 56 f1 f5 (.inl (len_lst _)) (by decide)).mono ?_; intro e wx29 hx29; obtain ⟨o29, n29, c29, rfl, N29, hb29⟩ := hx29.pn
  have f29 : FitP 628 (mulP (madeP l0) (constP 1)) := (fit_mulP f1 f5 (.inl (len_lst _))).mono (by decide)
  replace N1 := N1.next hb29
  replace HB := below_chain HB hb29
  clear hb29 N5
  go_wp2_with fail
  refine (rPSameE (mulP (madeP l0) (constP 1)) (madeP l0) (mulP_one _) _ _ _ _ _ _ _ N29 N1).mono ?_; rintro e wx30 ⟨rfl, hb30⟩
  replace N1 := N1.next hb30
  replace HB := below_chain HB hb30
  clear hb30 N29
  go_wp2_with fail
  refine (pAdd_any (madeP l0) (fun _ => 0) _ _ _ (N1.V f1 (by decide)) (polV_nil _) 9 f1 ((fitP_zero (k := 1) (by decide)).mono (by decide)) (by decide)).mono ?_; intro e wx31 hx31; obtain ⟨o31, n31, c31, rfl, N31, hb31⟩ := hx31.pn
  have f31 : FitP 11 (addP (madeP l0) (fun _ => 0)) := FitP.add f1 (fitP_zero (k := 1) (by decide))
  replace N1 := N1.next hb31
  replace HB := below_chain HB hb31
  clear hb31
  go_wp2_with fail
  refine (rPSameE (addP (madeP l0) (fun _ => 0)) (madeP l0) (by rw [addP_zero]; exact EqP.refl _) _ _ _ _ _ _ _ N31 N1).mono ?_; rintro e wx32 ⟨rfl, hb32⟩
  replace N1 := N1.next hb32
  replace HB := below_chain HB hb32
  clear hb32 N31
  go_wp2_with fail
  refine (rneg1_any _).mono ?_; rintro e wx33 ⟨v33, rfl, C33, hb33⟩
  obtain ⟨ra33, rb33, rc33, rd33, re33, rf33, rg33, rfl⟩ := C33.shape6
  have f33 : Fit 1 (-1 : Rat) := fit_neg fit1
  replace N1 := N1.next hb33
  replace HB := below_chain HB hb33
  clear hb33
  go_wp2_with fail
  refine (pScale_any (madeP l0) (-1) _ _ _ (N1.V f1 (by decide)) (C33.toV f33 (by decide)) 9 1 f1 f33 (by decide)).mono ?_; intro e wx34 hx34; obtain ⟨o34, n34, c34, rfl, N34, hb34⟩ := hx34.pn
  have f34 : FitP 40 (mulP (madeP l0) (constP (-1))) := fit_scale f1 f33 (by decide)
  replace N1 := N1.next hb34
  replace HB := below_chain HB hb34
  clear hb34 C33
  go_wp2_with fail
  refine (pAdd_any (madeP l0) (mulP (madeP l0) (constP (-1))) _ _ _ (N1.V f1 (by decide)) (N34.V f34 (by decide)) 40 (f1.mono (by decide)) f34 (by decide)).mono ?_; intro e wx35 hx35; obtain ⟨o35, n35, c35, rfl, N35, hb35⟩ := hx35.pn
  have f35 : FitP 50 (addP (madeP l0) (mulP (madeP l0) (constP (-1)))) := FitP.add f1 f34
  replace HB := below_chain HB hb35
  clear hb35 N1 N34
  have hz : n35 = 0 := by rw [← N35.1, lst_congr (minus_zero (madeP l0)), lst_zero]; rfl
  subst hz
  go_wp2_with fail
  go_ret
  exact ⟨rfl, HB⟩

theorem fit_starR {P : Pl} {k : Nat} (hP : FitP k P) (hk : k ≤ 30) (hl : (lst P).length ≤ 4) : FitP 10000000 (starR P) := by
  unfold starR
  split
  · exact (star_sizes hP hk hl 5 (by decide)).2
  · exact fitP_zero (by decide)
theorem pValidN (P : Pl) (w : World) (ao : Option Addr) (n cap : Nat) (h : PN w ao n cap P) {k : Nat} (hP : FitP k P) (hk : k ≤ 17179869184) :
    Calls Tryz.prog 14 #[.slice ao n cap] w fun e w' => e = .returned (.bool true) ∧ Below w.heap.size w w' := by
  obtain ⟨rfl, hC⟩ := h
  have hV : Pol RatV w ao (lst P).length cap ((lst P).map toM) := Pol.toV hC (fun m hm => by obtain ⟨x, hx, rfl⟩ := List.mem_map.1 hm; exact hP.mem hx) hk
  have := pValid_any _ _ _ _ _ hV
  rwa [vl_vlB (lst_vl P)] at this

set_option maxHeartbeats 8000000 in
set_option maxRecDepth 100000 in
theorem walkSolves (w : World) (hp : Pow w) (l0 : List Int) (a0 : Option Addr) (m0 k0 : Nat) (h0 : Sl w a0 m0 k0 (l0.map (.int .i64))) (hz0 : a0 = none → k0 = 0) (hl0 : ∀ z ∈ l0, -9223372036854775808 ≤ z ∧ z ≤ 9223372036854775807) :
    Calls Tryz.prog 6 #[.slice a0 m0 k0] w fun e w' => e = .returned (.bool true) ∧ Below w.heap.size w w' := by
  have HP := hp
  have HB := Below.refl w.heap.size w
  have hlen := len_madeP l0
  have hsg := starOk_less (madeP l0)
  obtain ⟨E, hE⟩ : ∃ E, starE (madeP l0) = E := ⟨_, rfl⟩
  have HE := hid hE
  cases hok : starOk (madeP l0) with
  | false =>
    have hE2 : E = 7 := by rw [← hE]; unfold starE; rw [hok]; rfl
    have HLess : Hid (decide (rsg (absQ (madeP l0 (0, 0, 0)) - 1) < 0) = false) := hid (by rw [hsg, hok])
    have hR : Hid (starR (madeP l0) = fun _ => 0) := hid (by unfold starR; rw [hok]; rfl)
    clear hsg hok hE
    subst hE2
    go_enter Tryz.func6, Tryz.ntmps6
    go_wp2_with fail
    refine (poly_any l0 hl0 a0 m0 k0 _ h0).mono ?_; intro e wx1 hx1; obtain ⟨o1, n1, c1, rfl, N1, hb1⟩ := hx1.pn
    have f1 : FitP 9 (madeP l0) := fit_madeP l0
    replace h0 := h0.next hb1
    replace HP := HP.next hb1
    replace HB := below_chain HB hb1
    clear hb1
    go_wp2_with fail
    refine (pStar_any (madeP l0) _ _ (N1.V f1 (by decide)) 9 f1 (by decide) hlen).mono ?_; intro e wx2 hx2; obtain ⟨o2, n2, c2, rfl, N2, hb2⟩ := hx2.pn; rw [HE.out]
    have f2 : FitP 10000000 (starR (madeP l0)) := fit_starR f1 (by decide) hlen
    replace h0 := h0.next hb2
    replace HP := HP.next hb2
    replace N1 := N1.next hb2
    replace HB := below_chain HB hb2
    clear hb2
    go_wp2_with fail
    refine (rLowest_any (madeP l0) _ _ (N1.V f1 (by decide))).mono ?_; rintro e wx3 ⟨v3, rfl, C3, hb3⟩
    obtain ⟨ra3, rb3, rc3, rd3, re3, rf3, rg3, rfl⟩ := C3.shape6
    have f3 : Fit 9 ((madeP l0) (0, 0, 0)) := f1 (0, 0, 0) (by decide)
    replace h0 := h0.next hb3
    replace HP := HP.next hb3
    replace N1 := N1.next hb3
    replace N2 := N2.next hb3
    replace HB := below_chain HB hb3
    clear hb3
    go_wp2_with fail
    refine (rAbs_any ((madeP l0) (0, 0, 0)) _ _ (C3.toV f3 (by decide))).mono ?_; rintro e wx4 ⟨v4, rfl, C4, hb4⟩
    obtain ⟨ra4, rb4, rc4, rd4, re4, rf4, rg4, rfl⟩ := C4.shape6
    have f4 : Fit 9 (absQ ((madeP l0) (0, 0, 0))) := fit_abs f3
    replace h0 := h0.next hb4
    replace HP := HP.next hb4
    replace N1 := N1.next hb4
    replace N2 := N2.next hb4
    replace C3 := C3.next hb4
    replace HB := below_chain HB hb4
    clear hb4
    go_wp2_with fail
    refine (rone_any _).mono ?_; rintro e wx5 ⟨v5, rfl, C5, hb5⟩
    obtain ⟨ra5, rb5, rc5, rd5, re5, rf5, rg5, rfl⟩ := C5.shape6
    have f5 : Fit 1 (1 : Rat) := fit1
    replace h0 := h0.next hb5
    replace HP := HP.next hb5
    replace N1 := N1.next hb5
    replace N2 := N2.next hb5
    replace C3 := C3.next hb5
    replace C4 := C4.next hb5
    replace HB := below_chain HB hb5
    clear hb5
    go_wp2_with fail
    refine (rLess_any (absQ ((madeP l0) (0, 0, 0))) 1 _ _ _ (C4.toV f4 (by decide)) (C5.toV f5 (by decide)) 9 (f4.mono (by decide)) (f5.mono (by decide)) (by decide)).mono ?_; rw [HLess.out]; rintro e wx6 ⟨rfl, hb6⟩
    replace h0 := h0.next hb6
    replace HP := HP.next hb6
    replace N1 := N1.next hb6
    replace N2 := N2.next hb6
    replace C3 := C3.next hb6
    replace C4 := C4.next hb6
    replace C5 := C5.next hb6
    replace HB := below_chain HB hb6
    clear hb6
    go_wp2_with fail
    refine (lpawake_any _ HP).mono ?_; rintro e wx7 ⟨rfl, hb7⟩
    replace h0 := h0.next hb7
    replace HP := HP.next hb7
    replace N1 := N1.next hb7
    replace N2 := N2.next hb7
    replace C3 := C3.next hb7
    replace C4 := C4.next hb7
    replace C5 := C5.next hb7
    replace HB := below_chain HB hb7
    clear hb7
    have hz : n2 = 0 := by rw [← N2.1, hR.out, lst_zero]; rfl
    subst hz
    go_wp2_with fail
    go_ret
    exact ⟨rfl, HB⟩
  | true =>
    have hE2 : E = 0 := by rw [← hE]; unfold starE; rw [hok]; rfl
    have HLess : Hid (decide (rsg (absQ (madeP l0 (0, 0, 0)) - 1) < 0) = true) := hid (by rw [hsg, hok])
    have hR : Hid (starR (madeP l0) = starP (madeP l0)) := hid (by unfold starR; rw [hok]; rfl)
    have hden : Hid (1 - madeP l0 (0, 0, 0) ≠ 0) := hid (star_den hok)
    clear hsg hok hE
    subst hE2
    go_enter Tryz.func6, Tryz.ntmps6
    go_wp2_with fail
    refine (poly_any l0 hl0 a0 m0 k0 _ h0).mono ?_; intro e wx1 hx1; obtain ⟨o1, n1, c1, rfl, N1, hb1⟩ := hx1.pn
    have f1 : FitP 9 (madeP l0) := fit_madeP l0
    replace HP := HP.next hb1
    replace HB := below_chain HB hb1
    clear hb1
    go_wp2_with fail
    refine (pStar_any (madeP l0) _ _ (N1.V f1 (by decide)) 9 f1 (by decide) hlen).mono ?_; intro e wx2 hx2; obtain ⟨o2, n2, c2, rfl, N2, hb2⟩ := hx2.pn; rw [HE.out]
    have f2 : FitP 10000000 (starR (madeP l0)) := fit_starR f1 (by decide) hlen
    replace HP := HP.next hb2
    replace N1 := N1.next hb2
    replace HB := below_chain HB hb2
    clear hb2
    go_wp2_with fail
    refine (rLowest_any (madeP l0) _ _ (N1.V f1 (by decide))).mono ?_; rintro e wx3 ⟨v3, rfl, C3, hb3⟩
    obtain ⟨ra3, rb3, rc3, rd3, re3, rf3, rg3, rfl⟩ := C3.shape6
    have f3 : Fit 9 ((madeP l0) (0, 0, 0)) := f1 (0, 0, 0) (by decide)
    replace HP := HP.next hb3
    replace N1 := N1.next hb3
    replace N2 := N2.next hb3
    replace HB := below_chain HB hb3
    clear hb3
    go_wp2_with fail
    refine (rAbs_any ((madeP l0) (0, 0, 0)) _ _ (C3.toV f3 (by decide))).mono ?_; rintro e wx4 ⟨v4, rfl, C4, hb4⟩
    obtain ⟨ra4, rb4, rc4, rd4, re4, rf4, rg4, rfl⟩ := C4.shape6
    have f4 : Fit 9 (absQ ((madeP l0) (0, 0, 0))) := fit_abs f3
    replace HP := HP.next hb4
    replace N1 := N1.next hb4
    replace N2 := N2.next hb4
    replace HB := below_chain HB hb4
    clear hb4 C3
    go_wp2_with fail
    refine (rone_any _).mono ?_; rintro e wx5 ⟨v5, rfl, C5, hb5⟩
    obtain ⟨ra5, rb5, rc5, rd5, re5, rf5, rg5, rfl⟩ := C5.shape6
    have f5 : Fit 1 (1 : Rat) := fit1
    replace HP := HP.next hb5
    replace N1 := N1.next hb5
    replace N2 := N2.next hb5
    replace C4 := C4.next hb5
    replace HB := below_chain HB hb5
    clear hb5
    go_wp2_with fail
    refine (rLess_any (absQ ((madeP l0) (0, 0, 0))) 1 _ _ _ (C4.toV f4 (by decide)) (C5.toV f5 (by decide)) 9 (f4.mono (by decide)) (f5.mono (by decide)) (by decide)).mono ?_; rw [HLess.out]; rintro e wx6 ⟨rfl, hb6⟩
    replace HP := HP.next hb6
    replace N1 := N1.next hb6
    replace N2 := N2.next hb6
    replace HB := below_chain HB hb6
    clear hb6 C4 C5
    go_wp2_with fail
    refine (lpawake_any _ HP).mono ?_; rintro e wx7 ⟨rfl, hb7⟩
    replace N1 := N1.next hb7
    replace N2 := N2.next hb7
    replace HB := below_chain HB hb7
    clear hb7
    go_wp2_with fail
    refine (pValidN _ _ _ _ _ N2 f2 (by decide)).mono ?_; rintro e wx8 ⟨rfl, hb8⟩
    replace N1 := N1.next hb8
    replace N2 := N2.next hb8
    replace HB := below_chain HB hb8
    clear hb8
    go_wp2_with fail
    refine (rone_any _).mono ?_; rintro e wx9 ⟨v9, rfl, C9, hb9⟩
    obtain ⟨ra9, rb9, rc9, rd9, re9, rf9, rg9, rfl⟩ := C9.shape6
    have f9 : Fit 1 (1 : Rat) := fit1
    replace N1 := N1.next hb9
    replace N2 := N2.next hb9
    replace HB := below_chain HB hb9
    clear hb9
    go_wp2_with fail
    refine (rPConst_any 1 _ _ (C9.toV f9 (by decide)) 1 f9 (by decide)).mono ?_; intro e wx10 hx10; obtain ⟨o10, n10, c10, rfl, N10, hb10⟩ := hx10.pn
    have f10 : FitP 1 (constP 1) := fitP_const f9
    replace N1 := N1.next hb10
    replace N2 := N2.next hb10
    replace HB := below_chain HB hb10
    clear hb10 C9
    go_wp2_with fail
    refine (rPMul_any (madeP l0) (starR (madeP l0)) _ _ _ (N1.V f1 (by decide)) (N2.V f2 (by decide)) 9 10000000 56 f1 f2 (.inl (len_lst _)) (by decide)).mono ?_; intro e wx11 hx11; obtain ⟨o11, n11, c11, rfl, N11, hb11⟩ := hx11.pn
    have f11 : FitP 570000571 (mulP (madeP l0) (starR (madeP l0))) := (fit_mulP f1 f2 (.inl (len_lst _))).mono (by decide)
    replace N2 := N2.next hb11
    replace N10 := N10.next hb11
    replace HB := below_chain HB hb11
    clear hb11 N1
    go_wp2_with fail
    refine (rPAdd_any (constP 1) (mulP (madeP l0) (starR (madeP l0))) _ _ _ (N10.V f10 (by decide)) (N11.V f11 (by decide)) 570000571 (f10.mono (by decide)) f11 (by decide)).mono ?_; intro e wx12 hx12; obtain ⟨o12, n12, c12, rfl, N12, hb12⟩ := hx12.pn
    have f12 : FitP 570000573 (addP (constP 1) (mulP (madeP l0) (starR (madeP l0)))) := FitP.add f10 f11
    replace N2 := N2.next hb12
    replace HB := below_chain HB hb12
    clear hb12 N10 N11
    go_wp2_with fail
    refine (rPSameE (starR (madeP l0)) (addP (constP 1) (mulP (madeP l0) (starR (madeP l0)))) (by rw [hR.out]; exact starP_solves _ hden.out) _ _ _ _ _ _ _ N2 N12).mono ?_; rintro e wx13 ⟨rfl, hb13⟩
    replace HB := below_chain HB hb13
    clear hb13 N12 N2
    go_wp2_with fail
    go_ret
    exact ⟨rfl, HB⟩

theorem fit_polOf {l : List Mr} {k : Nat} (h : ∀ m ∈ l, Fit k m.2) (hk : 1 ≤ k) : FitP k (polOf l) := by
  unfold polOf
  split
  · rename_i hv
    intro e he
    obtain ⟨h1, h2⟩ := vlB_vl hv
    by_cases hm : ∃ m ∈ l.map fromM, m.1 = e
    · obtain ⟨m, hm, rfl⟩ := hm
      rw [cof_in h1.1 m hm]
      obtain ⟨x, hx, rfl⟩ := List.mem_map.1 hm
      exact h x hx
    · rw [cof_notin fun m hm2 he2 => hm ⟨m, hm2, he2⟩]
      exact fit_zero hk
  · exact fitP_zero hk
theorem len_polOf (l : List Mr) : (lst (polOf l)).length ≤ l.length := by
  cases hv : vlB l with
  | true =>
    have := congrArg List.length (polOf_lst hv)
    rw [List.length_map] at this
    exact Nat.le_of_eq this
  | false => rw [polOf_no hv, lst_zero]; simp

set_option maxHeartbeats 8000000 in
set_option maxRecDepth 100000 in
theorem walkStars (w : World) (hp : Pow w) (a0 : Option Addr) (m0 k0 : Nat) (l0 : List Mr) (h0 : Pol RatW w a0 m0 k0 l0) :
    Calls Tryz.prog 4 #[.slice a0 m0 k0] w fun e w' => e = .returned (.bool true) ∧ Below w.heap.size w w' := by
  have HB := Below.refl w.heap.size w
  have hbd := h0.bound
  go_enter Tryz.func4, Tryz.ntmps4
  go_wp2_with fail
  refine (plight_any _ _ _ _ _ h0).mono ?_; rintro e w1 ⟨⟨c, rfl, hc⟩, hb1⟩
  have HP := hp.next hb1
  replace HB := below_chain HB hb1
  cases c with
  | false =>
    clear hc
    go_wp2_with fail
    refine (lpawake_any _ HP).mono ?_; rintro e wq ⟨rfl, hbq⟩
    go_wp2_with fail
    go_ret
    exact ⟨rfl, below_chain HB hbq⟩
  | true =>
    obtain ⟨h8, hV, hF⟩ := hc rfl
    by_cases h4 : m0 ≤ 4
    · have c1 : decide ((4 : Int) < (m0 : Int)) = false := by rw [decide_eq_false_iff_not]; omega
      obtain ⟨X, hX⟩ : ∃ X, polOf l0 = X := ⟨_, rfl⟩
      have VX : PolV w1 (.slice a0 m0 k0) X := ⟨_, _, _, _, rfl, hV.nextV hb1, by rw [hX]; exact EqP.refl _⟩
      have fX : FitP 2 X := by rw [← hX]; exact fit_polOf hF (by decide)
      have hlen : (lst X).length ≤ 4 := by rw [← hX]; exact Nat.le_trans (len_polOf _) (by rw [hV.1]; exact h4)
      obtain ⟨E, hE⟩ : ∃ E, starE X = E := ⟨_, rfl⟩
      have HE := hid hE
      have hEE : (E == E) = true := by simp
      clear hE hX hV hF hc h0 hp hb1
      go_wp2_with fail
      refine (pStar_any X _ _ VX 2 fX (by decide) hlen).mono ?_; intro e wx2 hx2; obtain ⟨o2, n2, c2, rfl, N2, hb2⟩ := hx2.pn; rw [HE.out]
      have f2 : FitP 10000000 (starR X) := fit_starR fX (by decide) hlen
      replace VX := VX.next hb2
      replace HP := HP.next hb2
      replace HB := below_chain HB hb2
      clear hb2
      go_wp2_with fail
      refine (rPStar_any X _ _ VX 2 fX (by decide) hlen).mono ?_; intro e wx3 hx3; obtain ⟨o3, n3, c3, rfl, N3, hb3⟩ := hx3.pn; rw [HE.out]
      have f3 : FitP 10000000 (starR X) := fit_starR fX (by decide) hlen
      replace HP := HP.next hb3
      replace N2 := N2.next hb3
      replace HB := below_chain HB hb3
      clear hb3
      go_wp2_with fail
      refine (lpawake_any _ HP).mono ?_; rintro e wx4 ⟨rfl, hb4⟩
      replace HP := HP.next hb4
      replace N2 := N2.next hb4
      replace N3 := N3.next hb4
      replace HB := below_chain HB hb4
      clear hb4
      go_wp2_with fail
      refine (rPSameE (starR X) (starR X) (EqP.refl _) _ _ _ _ _ _ _ N2 N3).mono ?_; rintro e wx5 ⟨rfl, hb5⟩
      replace HP := HP.next hb5
      replace HB := below_chain HB hb5
      clear hb5 N2 N3
      go_wp2_with fail
      go_ret
      exact ⟨rfl, HB⟩
    · have c1 : decide ((4 : Int) < (m0 : Int)) = true := by rw [decide_eq_true_iff]; omega
      clear hc
      go_wp2_with fail
      refine (lpawake_any _ HP).mono ?_; rintro e wq ⟨rfl, hbq⟩
      go_wp2_with fail
      go_ret
      exact ⟨rfl, below_chain HB hbq⟩

end Go.Proofs.YtgohfieleckmgaaGreatDoor
