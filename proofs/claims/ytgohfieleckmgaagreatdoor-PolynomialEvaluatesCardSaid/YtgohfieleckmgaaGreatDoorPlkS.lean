/-
  Joined out of XPlk, XPla, XPlo.
-/
import Derived.Test.YtgohfieleckmgaaGreatDoorPtx
import Derived.Test.YtgohfieleckmgaaGreatDoorPlyS
import Derived.Test.YtgohfieleckmgaaGreatDoorPoh
import Derived.Test.YtgohfieleckmgaaGreatDoorPfn
import Derived.Test.YtgohfieleckmgaaGreatDoorPrs
import Derived.Test.YtgohfieleckmgaaGreatDoorOpenP
import Derived.Test.YtgohfieleckmgaaGreatDoorMod

/-
  Made polynomials, the examples of the chapter, texts of small numbers: plain facts. No condition, no program.
-/
namespace Go.Proofs.YtgohfieleckmgaaGreatDoor
open Go.RowKit Go.Lib
set_option linter.unusedSimpArgs false
set_option linter.unusedVariables false

theorem mono_far {d : Ex} (q : Rat) (h : ¬ deg d ≤ 5) : EqP (monoP d q) fun _ => 0 := fun e he => if_neg fun k => h (by rw [← k]; exact he)
theorem mono_cof (d : Ex) (q : Rat) : monoP d q = cof [(d, q)] := by
  funext e
  rw [cof_cons, cof_nil]
  unfold monoP
  by_cases h : e = d
  · rw [if_pos h, if_pos h.symm]; grind
  · rw [if_neg h, if_neg fun k => h k.symm]; grind
theorem zero_mulP (Q : Pl) : EqP (mulP (fun _ => 0) Q) fun _ => 0 := fun e _ => by
  unfold mulP
  exact sumL_zero fun a _ => sumL_zero fun b _ => by split <;> grind
theorem mono_mul (d e : Ex) (q r : Rat) (he : deg e ≤ 5) : EqP (mulP (monoP d q) (monoP e r)) (monoP (addE d e) (q * r)) := by
  by_cases hd : deg d ≤ 5
  · have h := cof_pairs [(d, q)] [(e, r)] (by simpa using hd) (by simpa using he)
    rw [mono_cof, mono_cof, mono_cof]
    exact h.symm
  · rw [mulP_congr (mono_far q hd) (EqP.refl (monoP e r))]
    refine (zero_mulP _).trans (mono_far _ ?_).symm
    rw [deg_add]; omega

/-! ### The examples -/
theorem ex_sum : EqP (addP (paramP 0) (paramP 1)) (cof [((1, 0, 0), 1), ((0, 1, 0), 1)]) := fun e _ => by
  show monoP (1, 0, 0) 1 e + monoP (0, 1, 0) 1 e = _
  simp only [mono_cof, cof_cons, cof_nil]
  grind
theorem ex_square : lst (mulP (addP (paramP 0) (paramP 1)) (addP (paramP 0) (paramP 1))) = [((2, 0, 0), 1), ((1, 1, 0), 2), ((0, 2, 0), 1)] := by
  rw [mulP_congr ex_sum ex_sum, ← lst_congr (cof_pairs _ _ (by decide) (by decide))]
  decide +kernel
theorem half : makeRat 1 2 = 1 / 2 := by decide +kernel
/-- a + 1/2. -/
def exP : Pl := addP (paramP 0) (constP (makeRat 1 2))
theorem exP_zero : exP (0, 0, 0) = 1 / 2 := by decide +kernel
theorem exP_eq : EqP exP (cof [((1, 0, 0), 1), ((0, 0, 0), 1 / 2)]) := fun e _ => by
  show monoP (1, 0, 0) 1 e + constP (makeRat 1 2) e = _
  rw [half, show constP (1 / 2) = monoP (0, 0, 0) (1 / 2) from rfl]
  simp only [mono_cof, cof_cons, cof_nil]
  grind
theorem exP_lst : lst exP = [((1, 0, 0), 1), ((0, 0, 0), 1 / 2)] := by
  rw [lst_congr exP_eq]
  decide +kernel
theorem exP_ok : starOk exP = true := by
  unfold starOk
  rw [exP_zero]
  decide +kernel
theorem exP_step : EqP (stepP exP) (monoP (1, 0, 0) 2) := by
  refine (stepP_eq exP).trans fun e he => ?_
  show (exP e + constP (-exP (0, 0, 0)) e) * (1 / (1 - exP (0, 0, 0))) = _
  rw [exP_eq e he, exP_zero, show constP (-(1 / 2 : Rat)) = monoP (0, 0, 0) (-(1 / 2)) from rfl]
  simp only [mono_cof, cof_cons, cof_nil]
  have h2 : (1 : Rat) / (1 - 1 / 2) = 2 := by decide +kernel
  rw [h2]
  by_cases h1 : ((1, 0, 0) : Ex) = e
  · have h0 : ¬ ((0, 0, 0) : Ex) = e := fun h => by rw [← h1] at h; simp at h
    rw [if_pos h1, if_pos h1, if_neg h0, if_neg h0]; grind
  · rw [if_neg h1, if_neg h1]
    by_cases h0 : ((0, 0, 0) : Ex) = e
    · rw [if_pos h0, if_pos h0]; grind
    · rw [if_neg h0, if_neg h0]; grind
theorem exP_pow : ∀ k, EqP (powP (constP 2) (stepP exP) k) (monoP (k, 0, 0) (2 ^ (k + 1)))
  | 0 => fun e _ => by
    show (if e = (0, 0, 0) then (2 : Rat) else 0) = if e = (0, 0, 0) then 2 ^ 1 else 0
    rw [show (2 : Rat) ^ 1 = 2 by decide +kernel]
  | k + 1 => by
    show EqP (mulP (powP (constP 2) (stepP exP) k) (stepP exP)) _
    rw [mulP_congr (exP_pow k) exP_step]
    refine (mono_mul _ _ _ _ (by decide)).trans ?_
    rw [show addE (k, 0, 0) (1, 0, 0) = (k + 1, 0, 0) from rfl, ← Rat.pow_succ]
    exact EqP.refl _
theorem exP_star : lst (starP exP) = [((5, 0, 0), 64), ((4, 0, 0), 32), ((3, 0, 0), 16), ((2, 0, 0), 8), ((1, 0, 0), 4), ((0, 0, 0), 2)] := by
  have hc : (1 : Rat) / (1 - exP (0, 0, 0)) = 2 := by rw [exP_zero]; decide +kernel
  have h : EqP (starP exP) (cof [((5, 0, 0), 64), ((4, 0, 0), 32), ((3, 0, 0), 16), ((2, 0, 0), 8), ((1, 0, 0), 4), ((0, 0, 0), 2)]) := fun e he => by
    show geoP (constP (1 / (1 - exP (0, 0, 0)))) (stepP exP) 5 e = _
    rw [hc]
    show (((((powP (constP 2) (stepP exP) 0 e + powP (constP 2) (stepP exP) 1 e) + powP (constP 2) (stepP exP) 2 e) + powP (constP 2) (stepP exP) 3 e) + powP (constP 2) (stepP exP) 4 e) + powP (constP 2) (stepP exP) 5 e) = _
    rw [exP_pow 0 e he, exP_pow 1 e he, exP_pow 2 e he, exP_pow 3 e he, exP_pow 4 e he, exP_pow 5 e he]
    rw [show (2 : Rat) ^ (0 + 1) = 2 by decide +kernel, show (2 : Rat) ^ (1 + 1) = 4 by decide +kernel, show (2 : Rat) ^ (2 + 1) = 8 by decide +kernel, show (2 : Rat) ^ (3 + 1) = 16 by decide +kernel, show (2 : Rat) ^ (4 + 1) = 32 by decide +kernel, show (2 : Rat) ^ (5 + 1) = 64 by decide +kernel]
    simp only [mono_cof, cof_cons, cof_nil]
    grind
  rw [lst_congr h]
  decide +kernel

theorem fmtQ_nat (n : Nat) (q : Rat) (h1 : q.num = n) (h2 : q.den = 1) : fmtQ q = decDigits n := by
  unfold fmtQ
  rw [h1, h2, if_neg (by omega), if_pos rfl]
  simp
theorem dec_two (n : Nat) (h : 10 ≤ n) (h' : n < 100) : decDigits n = [UInt8.ofNat (48 + n / 10), UInt8.ofNat (48 + n % 10)] := by
  rw [dec_ten h, decDigits_one (by omega)]; rfl
theorem f2 : fmtQ (absQ 2) = [50] := by rw [fmtQ_nat 2 _ (by decide +kernel) (by decide +kernel), decDigits_one (by decide)]; rfl
theorem f4 : fmtQ (absQ 4) = [52] := by rw [fmtQ_nat 4 _ (by decide +kernel) (by decide +kernel), decDigits_one (by decide)]; rfl
theorem f8 : fmtQ (absQ 8) = [56] := by rw [fmtQ_nat 8 _ (by decide +kernel) (by decide +kernel), decDigits_one (by decide)]; rfl
theorem f16 : fmtQ (absQ 16) = [49, 54] := by rw [fmtQ_nat 16 _ (by decide +kernel) (by decide +kernel), dec_two _ (by decide) (by decide)]; rfl
theorem f32 : fmtQ (absQ 32) = [51, 50] := by rw [fmtQ_nat 32 _ (by decide +kernel) (by decide +kernel), dec_two _ (by decide) (by decide)]; rfl
theorem f64 : fmtQ (absQ 64) = [54, 52] := by rw [fmtQ_nat 64 _ (by decide +kernel) (by decide +kernel), dec_two _ (by decide) (by decide)]; rfl
theorem cof_is {e : Ex} {q : Rat} {l : List UInt8} (h : absQ q ≠ 1) (hl : fmtQ (absQ q) = l) : cofT e (absQ q) = [l] := by unfold cofT; rw [if_pos (.inl h), hl]
theorem cof_one {e : Ex} {q : Rat} (h : absQ q = 1) (hd : deg e ≠ 0) : cofT e (absQ q) = [] := by unfold cofT; rw [if_neg (by rintro (k | k); exact k h; exact hd k)]
theorem one_text {f : Bool} {e : Ex} {q : Rat} {l : List (List UInt8)} (hs : decide (q.num < 0) = false) (hc : cofT e (absQ q) = l) : oneT f (e, q) = sigT f false ++ join (l ++ parT e) [42] := by
  unfold oneT monT
  rw [show decide ((e, q).2.num < 0) = false from hs, hc]
theorem ex_text1 : fmtP (mulP (addP (paramP 0) (paramP 1)) (addP (paramP 0) (paramP 1))) = [97, 94, 50, 32, 43, 32, 50, 42, 97, 42, 98, 32, 43, 32, 98, 94, 50] := by
  unfold fmtP
  rw [ex_square, if_neg (by simp)]
  unfold txtL
  simp only [List.map_cons, List.map_nil]
  rw [one_text (by decide +kernel) (cof_one (by decide +kernel) (by decide)), one_text (by decide +kernel) (cof_is (by decide +kernel) f2), one_text (by decide +kernel) (cof_one (by decide +kernel) (by decide))]
  decide +kernel
theorem ex_text2 : fmtP (starP exP) = [54, 52, 42, 97, 94, 53, 32, 43, 32, 51, 50, 42, 97, 94, 52, 32, 43, 32, 49, 54, 42, 97, 94, 51, 32, 43, 32, 56, 42, 97, 94, 50, 32, 43, 32, 52, 42, 97, 32, 43, 32, 50] := by
  unfold fmtP
  rw [exP_star, if_neg (by simp)]
  unfold txtL
  simp only [List.map_cons, List.map_nil]
  rw [one_text (by decide +kernel) (cof_is (by decide +kernel) f64), one_text (by decide +kernel) (cof_is (by decide +kernel) f32), one_text (by decide +kernel) (cof_is (by decide +kernel) f16), one_text (by decide +kernel) (cof_is (by decide +kernel) f8), one_text (by decide +kernel) (cof_is (by decide +kernel) f4), one_text (by decide +kernel) (cof_is (by decide +kernel) f2)]
  decide +kernel
theorem fit_exP : FitP 3 exP := by
  have h1 : FitP 1 (paramP 0) := fit_param 0
  have h2 : Fit 1 (makeRat 1 2) := ⟨by rw [show (makeRat 1 2).num = 1 by decide +kernel]; exact lim_small (by decide), by rw [show (makeRat 1 2).den = 2 by decide +kernel]; exact lim_small (by decide)⟩
  exact FitP.add h1 (fitP_const h2)
theorem fit_half : Fit 1 (makeRat 1 2) := ⟨by rw [show (makeRat 1 2).num = 1 by decide +kernel]; exact lim_small (by decide), by rw [show (makeRat 1 2).den = 2 by decide +kernel]; exact lim_small (by decide)⟩

/-! ### Made polynomials -/
def digX (a : Int) (j : Nat) : Nat := (Int.tdiv a ((4 ^ j : Nat) : Int) % 4).toNat
def mulE (k : Nat) (e : Ex) : Ex := (k * e.1, k * e.2.1, k * e.2.2)
def exJ (a : Int) : Nat → Ex
  | 0 => (0, 0, 0)
  | j + 1 => addE (exJ a j) (mulE (digX a j) (paramE j))
theorem mulE_zero (d e : Ex) : addE d (mulE 0 e) = d := by unfold addE mulE; simp
theorem mulE_succ (d e : Ex) (k : Nat) : addE (addE d (mulE k e)) e = addE d (mulE (k + 1) e) := by
  unfold addE mulE; simp only [Nat.succ_mul, Nat.add_assoc]
theorem mono_param (e : Ex) (q : Rat) (j : Nat) (hj : j < 3) : EqP (mulP (monoP e q) (paramP j)) (monoP (addE e (paramE j)) q) := by
  unfold paramP
  rw [if_pos (by omega)]
  have := mono_mul e (paramE (j : Int)) q 1 (paramE_deg _)
  rwa [Rat.mul_one] at this
end Go.Proofs.YtgohfieleckmgaaGreatDoor

/-
  The contracts of the statements' helpers of layer 2: awake, light, pow, poly, and of made.Number. No condition but sizes and the table of powers of ten.
-/
namespace Go.Proofs.YtgohfieleckmgaaGreatDoor
open Go.RowKit
set_option linter.unusedSimpArgs false
set_option linter.unusedVariables false

/-- A made number. -/
def numQ (x : Int) : Rat := makeRat (x % 13 - 6) (1 + Int.tdiv x 13 % 3)

set_option maxHeartbeats 1000000 in
theorem number_any (x : Int) (h1 : -9223372036854775808 ≤ x) (h2 : x ≤ 9223372036854775807) (w : World) :
    Calls Tryz.prog 38 #[.int .i64 x] w (RatOut w (numQ x)) := by
  have hr := Res.start (Below.refl w.heap.size w) false none 0 0 none 0 0 25
  obtain ⟨a, ha⟩ : ∃ a, x % 13 = a := ⟨_, rfl⟩
  have ha1 : 0 ≤ a := by omega
  have ha2 : a < 13 := by omega
  obtain ⟨d, hd⟩ : ∃ d, Int.tdiv x 13 = d := ⟨_, rfl⟩
  have hd1 : -9223372036854775808 ≤ d ∧ d ≤ 9223372036854775807 := by
    rw [← hd]
    have := Int.tdiv_eq_ediv (a := x) (b := 13)
    have h13 : (13 : Int).sign = 1 := rfl
    by_cases hx : 0 ≤ x ∨ (13 : Int) ∣ x
    · rw [if_pos hx] at this; omega
    · rw [if_neg hx, h13] at this; omega
  obtain ⟨c, hc⟩ : ∃ c, d % 3 = c := ⟨_, rfl⟩
  have hc1 : 0 ≤ c := by omega
  have hc2 : c < 3 := by omega
  have hw1 : IntKind.i64.wrap (a - 6) = a - 6 := by rw [IntKind.wrap_i64]; omega
  have hw2 : IntKind.i64.wrap d = d := by rw [IntKind.wrap_i64]; omega
  have hw3 : IntKind.i64.wrap (1 + c) = 1 + c := by rw [IntKind.wrap_i64]; omega
  have hres : numQ x = makeRat (a - 6) (1 + c) := by unfold numQ; rw [ha, hd, hc]
  rw [hres]
  have m1 := hid (mod_any x 13 (by decide) (by decide))
  have m2 := hid (mod_any d 3 (by decide) (by decide))
  rw [ha] at m1
  rw [hc] at m2
  have Hd := hid hd
  clear ha hc hres
  go_enter Tryz.func38, Tryz.ntmps38
  go_wp2_with fail
  refine (m1.out _).mono ?_; rintro e w1 ⟨rfl, rfl⟩
  go_wp2_with fail
  refine (m2.out _).mono ?_; rintro e w1 ⟨rfl, rfl⟩
  go_wp2_with fail
  refine (rOf_any (a - 6) (1 + c) (by omega) (by omega) (by omega) (by omega) _).mono ?_; rintro e w2 ⟨v2, rfl, C2, hb2⟩
  obtain ⟨rb, ro, rn, rc, so, sn, sc, rfl⟩ := C2.shape
  have hr1 := hr.next hb2
  obtain ⟨d0, d1, d2, g0, g1, g2, _, _, _, _⟩ := hr1
  have hr1 := hr.next hb2
  go_wp2_with fail
  refine bodyPost_ret (v := .agg #[.bool rb, .slice ro rn rc, .slice so sn sc]) (by simp [results, Tryz.results38, go_sem, d0, d1, d2]) rfl ?_
  exact hr1.rc C2


theorem str_eq {s : ByteArray} {l : List UInt8} (h : s.data.toList = l) : s = ⟨l.toArray⟩ := by
  rw [← h]

set_option maxRecDepth 100000 in
set_option maxHeartbeats 4000000 in
theorem lpawake_any (w : World) (hp : Pow w) : Calls Tryz.prog 13 #[] w fun e w' => e = .returned (.bool true) ∧ Below w.heap.size w w' := by
  have hpar0 := hid (fun W => pParam_any 0 W)
  have hpar1 := hid (fun W => pParam_any 1 W)
  obtain ⟨n0, hn0⟩ : ∃ n, (lst (paramP 0)).length = n := ⟨_, rfl⟩
  obtain ⟨n1, hn1⟩ : ∃ n, (lst (paramP 1)).length = n := ⟨_, rfl⟩
  have f0 : Hid (FitP 1 (paramP 0)) := hid (fit_param 0)
  have f1 : Hid (FitP 1 (paramP 1)) := hid (fit_param 1)
  have hE0 : Hid (starE exP = 0) := hid (by unfold starE; rw [exP_ok]; rfl)
  have hR0 : Hid (starR exP = starP exP) := hid (by unfold starR; rw [exP_ok]; rfl)
  have hsz := hid (star_sizes fit_exP (by decide) (by rw [exP_lst]; decide) 5 (by decide))
  have hfs : Hid (FitP 10000000 (starP exP)) := hid hsz.out.2
  have Hp := hid hp
  clear hp hn0 hn1 hsz
  go_enter Tryz.func13, Tryz.ntmps13
  go_wp2_with fail
  refine (hpar0.out _).mono ?_; rintro e w1 ⟨ao, ac, rfl, hA1, hb1⟩
  go_wp2_with fail
  refine (hpar1.out _).mono ?_; rintro e w2 ⟨bo, bc, rfl, hB2, hb2⟩
  have hA2 := (hA1.next hb2).toV f0.out (by omega)
  have hB2 := hB2.toV f1.out (by omega)
  have hbel2 := below_chain hb1 hb2
  clear hA1
  go_wp2_with fail
  refine (pAdd_any _ _ _ _ _ hA2 hB2 1 f0.out f1.out (by decide)).mono ?_; rintro e w3 ⟨co, cc, rfl, hC3, hb3⟩
  have hA3 := hA2.next hb3
  have hC3 := hC3.toV (FitP.add f0.out f1.out) (by decide)
  have hbel3 := below_chain hbel2 hb3
  clear hA2 hB2
  go_wp2_with fail
  refine (rOf_any 1 2 (by decide) (by decide) (by decide) (by decide) _).mono ?_; rintro e w4 ⟨v4, rfl, C4, hb4⟩
  obtain ⟨rb, ro, rn, rc, so, sn, sc, rfl⟩ := C4.shape
  have hA4 := hA3.next hb4
  have hC4 := hC3.next hb4
  have hbel4 := below_chain hbel3 hb4
  clear hA3 hC3
  go_wp2_with fail
  refine (pConst_any _ _ _ (C4.toV fit_half (by decide)) 1 fit_half (by decide)).mono ?_; rintro e w5 ⟨co5, cc5, rfl, hK5, hb5⟩
  have hA5 := hA4.next hb5
  have hC5 := hC4.next hb5
  have hK5 := hK5.toV (fitP_const fit_half) (by decide)
  have hbel5 := below_chain hbel4 hb5
  clear hA4 hC4 C4
  go_wp2_with fail
  refine (pAdd_any _ _ _ _ _ hA5 hK5 1 f0.out (fitP_const fit_half) (by decide)).mono ?_; rintro e w6 ⟨do6, dc6, rfl, hD6, hb6⟩
  have hC6 := hC5.next hb6
  have hD6' : PolC w6 do6 dc6 exP := hD6
  have hDV := hD6'.toV fit_exP (by decide)
  have hbel6 := below_chain hbel5 hb6
  rw [show (lst (addP (paramP 0) (constP (makeRat 1 2)))).length = (lst exP).length from rfl]
  clear hA5 hC5 hK5 hD6 hD6'
  go_wp2_with fail
  refine (pStar_any exP _ _ hDV 3 fit_exP (by decide) (by rw [exP_lst]; decide)).mono ?_
  rw [hE0.out, hR0.out]
  rintro e w7 ⟨so7, sc7, rfl, hS7, hb7⟩
  have hC7 := hC6.next hb7
  have hSV := hS7.toV hfs.out (by decide)
  have hbel7 := below_chain hbel6 hb7
  clear hC6 hDV hS7
  go_wp2_with fail
  refine (pMul_any _ _ _ _ _ hC7 hC7 3 3 56 (FitP.add f0.out f1.out) (FitP.add f0.out f1.out) (.inl (len_lst _)) (by decide)).mono ?_; rintro e w8 ⟨mo8, mc8, rfl, hM8, hb8⟩
  have hfm : FitP (56 * (3 + 3 + 1) + 3 + 3 + 2) (mulP (addP (paramP 0) (paramP 1)) (addP (paramP 0) (paramP 1))) := fit_mulP (FitP.add f0.out f1.out) (FitP.add f0.out f1.out) (.inl (len_lst _))
  have hMV := hM8.toV hfm (by decide)
  have hSV8 := hSV.next hb8
  have hbel8 := below_chain hbel7 hb8
  clear hC7 hSV hM8
  go_wp2_with fail
  refine (pFormat_any _ _ _ hMV _ hfm (by decide) (Hp.out.next hbel8)).mono ?_
  rw [ex_text1]
  rintro e w9 ⟨s9, rfl, hs9, hb9⟩
  obtain rfl := str_eq hs9
  have hSV9 := hSV8.next hb9
  have hbel9 := below_chain hbel8 hb9
  clear hMV hSV8 hs9
  go_wp2_with fail
  refine (pFormat_any _ _ _ hSV9 _ hfs.out (by decide) (Hp.out.next hbel9)).mono ?_
  rw [ex_text2]
  rintro e wa ⟨sa, rfl, hsa, hba⟩
  obtain rfl := str_eq hsa
  have hbela := below_chain hbel9 hba
  clear hSV9 hsa
  go_wp2_with fail
  go_ret
  exact ⟨rfl, hbela⟩

/-! ### light -/
/-- A light argument reads as a polynomial of small numbers. -/
theorem ratW_light {w : World} {s : Bool} {xo : Option Addr} {xn xc : Nat} {yo : Option Addr} {yn yc : Nat} {q : Rat} (h : RatW w (.agg #[.bool s, .slice xo xn xc, .slice yo yn yc]) q) (h1 : xn ≤ 2) (h2 : yn ≤ 2) : RatV w (.agg #[.bool s, .slice xo xn xc, .slice yo yn yc]) q ∧ Fit 2 q := by
  obtain ⟨neg, N, D, ao, bo, n, cap, m, cap', e, hN, hD, LN, LD, zb, zc, hq⟩ := h
  simp only [Value.agg.injEq, Array.mk.injEq, List.cons.injEq, Value.bool.injEq, Value.slice.injEq, and_true] at e
  obtain ⟨rfl, ⟨rfl, rfl, rfl⟩, rfl, rfl, rfl⟩ := e
  refine ⟨⟨_, N, D, _, _, _, _, _, _, rfl, hN, hD, LN, LD, zb, zc, by omega, by omega, hq⟩, ?_⟩
  rw [← hq]
  exact ratOf_fit LN LD (by rw [hN.lenU]; exact h1) (by rw [hD.lenU]; exact h2) (by decide)
theorem ratW_bounds {w : World} {s : Bool} {xo : Option Addr} {xn xc : Nat} {yo : Option Addr} {yn yc : Nat} {q : Rat} (h : RatW w (.agg #[.bool s, .slice xo xn xc, .slice yo yn yc]) q) : xn ≤ 9223372036854775807 ∧ yn ≤ 9223372036854775807 := by
  obtain ⟨neg, N, D, ao, bo, n, cap, m, cap', e, hN, hD, LN, LD, zb, zc, hq⟩ := h
  simp only [Value.agg.injEq, Array.mk.injEq, List.cons.injEq, Value.bool.injEq, Value.slice.injEq, and_true] at e
  obtain ⟨rfl, ⟨rfl, rfl, rfl⟩, rfl, rfl, rfl⟩ := e
  exact ⟨hN.bound, hD.bound⟩
/-- What light says of a list: its elements ahead of i are light. -/
def LightTo (w : World) (ao : Option Addr) (l : List Mr) (i : Nat) : Prop := ∀ (j : Nat) (m : Mr), j < i → l[j]? = some m → Fit 2 m.2 ∧ ∃ b o, ao = some ⟨b, o, none⟩ ∧ ∃ x : Mo, Hex w b (o + j * 6) x ∧ x.1 = m.1 ∧ RatV w (ratM x) m.2

set_option maxRecDepth 100000 in
set_option maxHeartbeats 2000000 in
theorem plight_any (ao : Option Addr) (n cap : Nat) (l : List Mr) (w : World) (h : Pol RatW w ao n cap l) :
    Calls Tryz.prog 11 #[.slice ao n cap] w fun e w' => (∃ c, e = .returned (.bool c) ∧ (c = true → n ≤ 8 ∧ Pol RatV w ao n cap l ∧ ∀ m ∈ l, Fit 2 m.2)) ∧ Below w.heap.size w w' := by
  have hb := h.bound
  have H := hid h
  by_cases h8 : n ≤ 8
  · have c1 : decide ((8 : Int) < (n : Int)) = false := by rw [decide_eq_false_iff_not]; omega
    have hlen := hid h.len
    clear h
    go_enter Tryz.func11, Tryz.ntmps11
    go_wp2_with fail
    go_loopw [3] (fun iv wr => ∃ i : Nat, i ≤ n ∧ iv = .int .i64 i ∧ Hid (LightTo w ao l i) ∧ Below w.heap.size w wr) (fun i _ => n - (intOf i).toNat)
    case atStart => exact ⟨0, by omega, rfl, hid (fun j m hj => by omega), Below.refl _ _⟩
    case round =>
      obtain ⟨i, hi, rfl, hall, hbel⟩ := hrel
      by_cases hlt : i < n
      · obtain ⟨b, o, x, y, z, s, xo, xn, xc, yo, yn, yc, q, hm, rfl, hx, hr⟩ := H.out.at_ hlt
        obtain ⟨⟨x0, x1, x2⟩, x3, x4, x5⟩ := (hx.next hbel).h6
        have hbd := ratW_bounds hr
        have hli := hid (fun W => rLight_any s xo yo xn xc yn yc 2 hbd.1 hbd.2 W)
        have hok := hid (fun (h1 : xn ≤ 2) (h2 : yn ≤ 2) => ratW_light hr h1 h2)
        have HX := hid hx
        have Hm := hid hm
        obtain ⟨c, hc⟩ : ∃ c, (decide ((xn : Int) ≤ 2) && decide ((yn : Int) ≤ 2)) = c := ⟨_, rfl⟩
        rw [hc] at hli
        have Hc := hid hc
        have i0 : (0 : Int) ≤ (i : Int) := by omega
        have i1 : (i : Int) < (n : Int) := by omega
        clear hc hr hx hm hbd
        go_wp2_with fail
        refine (hli.out _).mono ?_; rintro e w2 ⟨rfl, hb2⟩
        have hbel2 := below_chain hbel hb2
        clear x0 x1 x2 x3 x4 x5
        cases c with
        | false =>
          go_wp2_with fail
          go_ret
          exact ⟨⟨false, rfl, fun h => by cases h⟩, hbel2⟩
        | true =>
          have hall2 : Hid (LightTo w (some ⟨b, o, none⟩) l (i + 1)) := hid (fun j m hj hjm => by
            rcases Nat.lt_succ_iff_lt_or_eq.1 hj with h1 | h1
            · exact hall.out j m h1 hjm
            · subst h1
              rw [Hm.out] at hjm
              injection hjm with hjm
              subst hjm
              have hcc := Hc.out
              simp only [Bool.and_eq_true, decide_eq_true_eq] at hcc
              obtain ⟨k1, k2⟩ := hok.out (by omega) (by omega)
              exact ⟨k2, b, o, rfl, _, HX.out, rfl, k1⟩)
          go_wp2_with fail
          go_roundw
          case rel => exact ⟨i + 1, by omega, by go_num, hall2, hbel2⟩
          case measure => simp [intOf]; omega
      · obtain rfl : i = n := by omega
        go_wp2_with fail
        go_ret
        refine ⟨⟨true, rfl, fun _ => ⟨h8, ?_, ?_⟩⟩, hbel⟩
        · obtain ⟨h0, h1, h2, h3, h4⟩ := H.out
          refine ⟨h0, h1, h2, h3, fun j m hm => ?_⟩
          exact (hall.out j m (by rw [← h0]; exact (List.getElem?_eq_some_iff.1 hm).1) hm).2
        · intro m hm
          obtain ⟨j, hj⟩ := List.getElem?_of_mem hm
          exact (hall.out j m (by rw [← hlen.out]; exact (List.getElem?_eq_some_iff.1 hj).1) hj).1
  · have c1 : decide ((8 : Int) < (n : Int)) = true := by rw [decide_eq_true_iff]; omega
    clear h
    go_enter Tryz.func11, Tryz.ntmps11
    go_wp2_with fail
    go_ret
    exact ⟨⟨false, rfl, fun h => by cases h⟩, Below.refl _ _⟩
end Go.Proofs.YtgohfieleckmgaaGreatDoor

/-
  The contracts of pow and poly of the statements about layer 2. No condition but sizes.
-/
namespace Go.Proofs.YtgohfieleckmgaaGreatDoor
open Go.RowKit
set_option linter.unusedSimpArgs false
set_option linter.unusedVariables false

/-! ### Made polynomials, plain -/
def grp (l : List Int) (t : Nat) : Pl := monoP (exJ (l.getD (2 * t) 0) 3) (numQ (l.getD (2 * t + 1) 0))
def madeS (l : List Int) : Nat → Pl
  | 0 => fun _ => 0
  | t + 1 => addP (madeS l t) (grp l t)
/-- A made polynomial. -/
def madeP (l : List Int) : Pl := madeS l (min 4 (l.length / 2))
theorem tdiv_bounds {a : Int} {p : Nat} (h : -9223372036854775808 ≤ a ∧ a ≤ 9223372036854775807) (hp : 0 < p) : -9223372036854775808 ≤ Int.tdiv a (p : Int) ∧ Int.tdiv a (p : Int) ≤ 9223372036854775807 := by
  have h1 : (Int.tdiv a (p : Int)).natAbs ≤ a.natAbs := by
    rw [Int.natAbs_tdiv]; exact Nat.div_le_self _ _
  by_cases h0 : 0 ≤ a
  · have := Int.tdiv_nonneg h0 (show (0 : Int) ≤ (p : Int) by omega)
    omega
  · have h2 : Int.tdiv a (p : Int) ≤ 0 := by
      have := Int.tdiv_nonneg (a := -a) (b := (p : Int)) (by omega) (by omega)
      rw [Int.neg_tdiv] at this
      omega
    omega
theorem lim_nat {n : Nat} (h : n < 4294967296) : lim n ≤ 1 := lim_small h
theorem fit_num (x : Int) : Fit 1 (numQ x) := by
  have h1 : 0 ≤ x % 13 := by omega
  have h2 : x % 13 < 13 := by omega
  have h3 : 0 ≤ Int.tdiv x 13 % 3 := by omega
  have h4 : Int.tdiv x 13 % 3 < 3 := by omega
  unfold numQ
  obtain ⟨a, ha⟩ : ∃ a : Nat, x % 13 = a := ⟨(x % 13).toNat, by omega⟩
  obtain ⟨b, hb⟩ : ∃ b : Nat, Int.tdiv x 13 % 3 = b := ⟨(Int.tdiv x 13 % 3).toNat, by omega⟩
  rw [ha, hb]
  have ha' : a < 13 := by omega
  have hb' : b < 3 := by omega
  have key : ∀ (a : Fin 13) (b : Fin 3), (makeRat ((a.val : Int) - 6) (1 + (b.val : Int))).num.natAbs < 4294967296 ∧ (makeRat ((a.val : Int) - 6) (1 + (b.val : Int))).den < 4294967296 := by decide +kernel
  obtain ⟨k1, k2⟩ := key ⟨a, ha'⟩ ⟨b, hb'⟩
  exact ⟨lim_nat k1, lim_nat k2⟩
theorem fit_grp (l : List Int) (t : Nat) : FitP 1 (grp l t) := fitP_mono _ (fit_num _)
theorem fit_madeS (l : List Int) : ∀ t, FitP (2 * t + 1) (madeS l t)
  | 0 => fitP_zero (by decide)
  | t + 1 => by
    have := FitP.add (fit_madeS l t) (fit_grp l t)
    exact this.mono (by omega)
theorem fit_madeP (l : List Int) : FitP 9 (madeP l) := (fit_madeS l _).mono (by have := Nat.min_le_left 4 (l.length / 2); omega)
theorem putR_len : ∀ (l : List Mn) (m : Mn), (putR l m).length ≤ l.length + 1 := by
  intro l m
  induction l with
  | nil => simp [putR]
  | cons x l ih =>
    unfold putR
    split
    · simp; omega
    · split
      · split
        · simp; omega
        · simp
      · simp
theorem len_add (P : Pl) (d : Ex) (q : Rat) : (lst (addP P (monoP d q))).length ≤ (lst P).length + 1 := by
  obtain ⟨h1, h2⟩ := putP_eq (lst_vl P) (d, q)
  have h3 : EqP (cof (putP (lst P) (d, q))) (addP P (monoP d q)) := h2.trans fun e he => by
    show cof (lst P) e + _ = P e + _
    rw [cof_lst P e he]
  rw [← lst_congr h3, ← vl_eq h1]
  unfold putP
  split
  · exact putR_len _ _
  · omega
theorem len_madeS (l : List Int) : ∀ t, (lst (madeS l t)).length ≤ t
  | 0 => by show (lst fun _ => 0).length ≤ 0; rw [lst_zero]; simp
  | t + 1 => Nat.le_trans (len_add _ _ _) (Nat.succ_le_succ (len_madeS l t))
theorem len_madeP (l : List Int) : (lst (madeP l)).length ≤ 4 := Nat.le_trans (len_madeS l _) (Nat.min_le_left _ _)
theorem lst_mono_len (d : Ex) (q : Rat) : (lst (monoP d q)).length ≤ 1 := by
  have h := len_add (fun _ => 0) d q
  rw [lst_zero, zero_addP] at h
  exact h
theorem lst_param_len (i : Int) : (lst (paramP i)).length ≤ 1 := by
  unfold paramP
  split
  · exact lst_mono_len _ _
  · rw [lst_zero]; simp

/-! ### pow -/
set_option maxRecDepth 100000 in
theorem pow4_any (j : Nat) (hj : j ≤ 2) (w : World) : Calls Tryz.prog 72 #[.int .i64 4, .int .i64 j] w fun e w' => e = .returned (.int .i64 ((4 ^ j : Nat) : Int)) ∧ w = w' := by
  rcases (by omega : j = 0 ∨ j = 1 ∨ j = 2) with rfl | rfl | rfl
  · go_enter Tryz.func72, Tryz.ntmps72
    go_wp2_with fail
    go_loopw [5, 6] (fun ov iv wr => (ov = .int .i64 1 ∧ iv = .int .i64 0) ∧ wr = w) (fun _ i _ => 0)
    case atStart => exact ⟨⟨rfl, rfl⟩, rfl⟩
    case round =>
      obtain ⟨⟨rfl, rfl⟩, rfl⟩ := hrel
      go_wp2_with fail
      go_ret
      exact ⟨rfl, rfl⟩
  · go_enter Tryz.func72, Tryz.ntmps72
    go_wp2_with fail
    go_loopw [5, 6] (fun ov iv wr => ((ov = .int .i64 1 ∧ iv = .int .i64 0) ∨ (ov = .int .i64 4 ∧ iv = .int .i64 1)) ∧ wr = w) (fun _ i _ => (1 - intOf i).toNat)
    case atStart => exact ⟨.inl ⟨rfl, rfl⟩, rfl⟩
    case round =>
      obtain ⟨⟨rfl, rfl⟩ | ⟨rfl, rfl⟩, rfl⟩ := hrel
      · go_wp2_with fail
        go_roundw
        case rel => exact ⟨.inr ⟨by go_num, by go_num⟩, by trivial⟩
        case measure => simp [intOf]
      · go_wp2_with fail
        go_ret
        exact ⟨rfl, rfl⟩
  · go_enter Tryz.func72, Tryz.ntmps72
    go_wp2_with fail
    go_loopw [5, 6] (fun ov iv wr => ((ov = .int .i64 1 ∧ iv = .int .i64 0) ∨ (ov = .int .i64 4 ∧ iv = .int .i64 1) ∨ (ov = .int .i64 16 ∧ iv = .int .i64 2)) ∧ wr = w) (fun _ i _ => (2 - intOf i).toNat)
    case atStart => exact ⟨.inl ⟨rfl, rfl⟩, rfl⟩
    case round =>
      obtain ⟨⟨rfl, rfl⟩ | ⟨rfl, rfl⟩ | ⟨rfl, rfl⟩, rfl⟩ := hrel
      · go_wp2_with fail
        go_roundw
        case rel => exact ⟨.inr (.inl ⟨by go_num, by go_num⟩), by trivial⟩
        case measure => simp [intOf]
      · go_wp2_with fail
        go_roundw
        case rel => exact ⟨.inr (.inr ⟨by go_num, by go_num⟩), by trivial⟩
        case measure => simp [intOf]
      · go_wp2_with fail
        go_ret
        exact ⟨rfl, rfl⟩

/-! ### poly -/
set_option maxRecDepth 100000 in
set_option maxHeartbeats 8000000 in
theorem poly_any (l : List Int) (hl : ∀ x ∈ l, -9223372036854775808 ≤ x ∧ x ≤ 9223372036854775807) (ao : Option Addr) (n cap : Nat) (w : World) (h : Sl w ao n cap (l.map (.int .i64))) :
    Calls Tryz.prog 28 #[.slice ao n cap, .int .i64 4] w (PolOut w (madeP l)) := by
  have hb := h.bound
  have hn := hid h.lenMap
  have Hl := hid hl
  have H := hid h
  clear h hl
  go_enter Tryz.func28, Tryz.ntmps28
  go_wp2_with fail
  go_loopw [5, 6] (fun pv iv wr => ∃ (t : Nat) (po : Option Addr) (pc pn : Nat), t ≤ 4 ∧ (2 * t ≤ n) ∧ iv = .int .i64 ((2 * t : Nat) : Int) ∧ pv = .slice po pn pc ∧ Hid ((lst (madeS l t)).length = pn) ∧ PolC wr po pc (madeS l t) ∧ Below w.heap.size w wr) (fun _ i _ => (8 - intOf i).toNat)
  case atStart => exact ⟨0, none, 0, 0, by omega, by omega, rfl, rfl, hid (by show (lst fun _ => 0).length = 0; rw [lst_zero]; rfl), by show PolC _ _ _ (fun _ => 0); unfold PolC; rw [lst_zero]; exact Pol.nil _ _, Below.refl _ _⟩
  case round =>
    obtain ⟨t, po, pc, pn, ht, htn, rfl, rfl, hpn, hP, hbel⟩ := hrel
    obtain ⟨i, hi⟩ : ∃ i, 2 * t = i := ⟨_, rfl⟩
    rw [hi] at htn ⊢
    have Hi := hid hi
    have w1' : IntKind.i64.wrap ((i : Int) + 1) = (i : Int) + 1 := by rw [IntKind.wrap_i64]; omega
    by_cases hgo : i + 1 < n ∧ i < 8
    · obtain ⟨hg1, hg2⟩ := hgo
      have hg1' : (i : Int) + 1 < (n : Int) := by omega
      have hg2' : (i : Int) < 8 := by omega
      obtain ⟨a, ha, b, off, rfl, hca⟩ := H.out.get (show i < n by omega)
      obtain ⟨x, hx, b2, off2, hbo, hcx⟩ := H.out.get hg1
      obtain ⟨k1, k2⟩ : b2 = b ∧ off2 = off := by injection hbo with hbo; injection hbo with h1 h2; exact ⟨h1.symm, h2.symm⟩
      subst k1 k2
      have ba := Hl.out a (List.mem_of_getElem? ha)
      have bx := Hl.out x (List.mem_of_getElem? hx)
      have hcw := hid hca
      have hcw := hid hca
      have hca' := cell_later hbel hca
      have hcx' := cell_later hbel hcx
      have hgrp : Hid (grp l t = monoP (exJ a 3) (numQ x)) := hid (by
        unfold grp
        rw [Hi.out, List.getD_eq_getElem?_getD, List.getD_eq_getElem?_getD, ha, hx]
        rfl)
      have hnum := hid (number_any x bx.1 bx.2)
      have HA := hid ha
      have hi8 : t + 1 ≤ 4 ∧ 2 * (t + 1) ≤ n ∧ 2 * (t + 1) = i + 2 ∧ 2 * t + 1 ≤ 9 := by omega
      have Hi8 := hid hi8
      clear ha hx hbo hca hcx hi hi8 ht
      go_wp2_with fail
      refine (hnum.out _).mono ?_; rintro e w1 ⟨v1, rfl, C1, hb1⟩
      obtain ⟨rb, ro, rn, rc, so, sn, sc, rfl⟩ := C1.shape
      have hP1 := hP.next hb1
      have hbel1 := below_chain hbel hb1
      have hfq := hid (fit_num x)
      clear hca' hcx' hP
      go_wp2_with fail
      refine (rPConst_any _ _ _ (C1.toV hfq.out (by omega)) 1 hfq.out (by decide)).mono ?_; rintro e w2 ⟨mo, mc, rfl, hM2, hb2⟩
      have hP2 := hP1.next hb2
      have hbel2 := below_chain hbel1 hb2
      obtain ⟨ml, hml⟩ : ∃ n, (lst (constP (numQ x))).length = n := ⟨_, rfl⟩
      have Hml := hid hml
      rw [hml]
      clear hml C1 hP1
      obtain ⟨q, hq⟩ : ∃ q, numQ x = q := ⟨_, rfl⟩
      rw [hq] at hM2 hgrp hfq Hml
      clear hq hnum
      go_wp2_with fail
      go_loopw [7, 8] (fun mv jv wr => ∃ (j : Nat) (mo : Option Addr) (mc ml : Nat), j ≤ 3 ∧ jv = .int .i64 j ∧ mv = .slice mo ml mc ∧ Hid ((lst (monoP (exJ a j) q)).length = ml) ∧ PolC wr mo mc (monoP (exJ a j) q) ∧ PolC wr po pc (madeS l t) ∧ Below w.heap.size w wr) (fun _ j _ => (3 - intOf j).toNat)
      case atStart => exact ⟨0, mo, mc, ml, by omega, rfl, rfl, Hml, hM2, hP2, hbel2⟩
      case round =>
        clear hM2 hP2 hbel2 Hml
        obtain ⟨j, mo, mc, ml, hj, rfl, rfl, hml, hM, hP, hbelj⟩ := hrel
        rename World => Wj
        by_cases hj3 : j < 3
        · have hpow := hid (fun W => pow4_any j (by omega) W)
          obtain ⟨d, hd⟩ : ∃ d, Int.tdiv a ((4 ^ j : Nat) : Int) = d := ⟨_, rfl⟩
          have hdb : -9223372036854775808 ≤ d ∧ d ≤ 9223372036854775807 := by rw [← hd]; exact tdiv_bounds ba (Nat.pow_pos (by decide))
          have hpp : 0 < 4 ^ j := Nat.pow_pos (by decide)
          obtain ⟨p, hp⟩ : ∃ p, 4 ^ j = p := ⟨_, rfl⟩
          rw [hp] at hpow hd hpp
          have hp0 : ((p : Int) == 0) = false := by rw [beq_eq_false_iff_ne]; omega
          have hp2 : ¬ p = 0 := by omega
          have hwd : IntKind.i64.wrap (Int.tdiv a (p : Int)) = d := by rw [hd, IntKind.wrap_i64]; omega
          have hmod := hid (mod_any d 4 (by decide) (by decide))
          obtain ⟨r, hr⟩ : ∃ r : Nat, d % 4 = (r : Int) := ⟨(d % 4).toNat, by omega⟩
          rw [hr] at hmod
          have hdig : Hid (digX a j = r) := hid (by unfold digX; rw [hp, hd, hr]; simp)
          have j1 : (j : Int) < 3 := by omega
          have hparm := hid (fun W => rPParam_any (j : Int) W)
          have hr3 : r ≤ 3 := by omega
          have hjj := hid hj3
          clear hp hdb hr hd hpp
          go_wp2_with fail
          go_loopw [7, 9] (fun mv kv wr => ∃ (k : Nat) (mo : Option Addr) (mc ml : Nat), k ≤ r ∧ kv = .int .i64 k ∧ mv = .slice mo ml mc ∧ Hid ((lst (monoP (addE (exJ a j) (mulE k (paramE j))) q)).length = ml) ∧ PolC wr mo mc (monoP (addE (exJ a j) (mulE k (paramE j))) q) ∧ PolC wr po pc (madeS l t) ∧ Below w.heap.size w wr) (fun _ k _ => (r - intOf k).toNat)
          case atStart => exact ⟨0, mo, mc, ml, by omega, rfl, rfl, by rw [mulE_zero]; exact hml, by rw [mulE_zero]; exact hM, hP, hbelj⟩
          case round =>
            clear hM hP hbelj hml
            obtain ⟨k, mo, mc, ml, hk, rfl, rfl, hml, hM, hP, hbelk⟩ := hrel
            rename World => Wk
            have hdd : Below Wk.heap.size Wk Wk.drew := (Below.refl _ _).drew
            have hS0 : Cl b2 (off2 + i) (.int .i64 a) Wk.drew := Cl.next (cell_later hbelk hcw.out) hdd
            have hMd := hM.next hdd
            have hPd := hP.next hdd
            have hbeld := below_chain hbelk hdd
            have i0 : (0 : Int) ≤ (i : Int) := by omega
            have i1 : (i : Int) < (n : Int) := by omega
            clear hM hP hbelk
            go_wp2_with fail
            refine wp_region_D (fun w' => Cl b2 (off2 + i) (.int .i64 a) w') [] (by kernel_rfl) ?_
            refine wpAnyD_take (i := 0) (v := ?_) rfl (by kernel_rfl) (by kernel_rfl) (by kernel_rfl) (by kernel_rfl) (fun _ _ _ h => h) (Or.inl ⟨by rfl, ?_⟩) hS0 ?_
            rotate_left
            · intro w _; first | (go_simp; done) | (go_simp; with_reducible rfl)
            refine wpAnyD_take (i := 1) (v := ?_) rfl (by kernel_rfl) (by kernel_rfl) (by kernel_rfl) (by kernel_rfl) (fun _ _ _ h => h) (Or.inl ⟨by rfl, ?_⟩) hS0 ?_
            rotate_left
            · intro w _; first | (go_simp; done) | (go_simp; with_reducible rfl)
            refine wpAnyD_take (i := 2) (v := ?_) rfl (by kernel_rfl) (by kernel_rfl) (by kernel_rfl) (by kernel_rfl) (fun _ _ _ h => h) (Or.inl ⟨by rfl, ?_⟩) hS0 ?_
            rotate_left
            · intro w _; first | (go_simp; done) | (go_simp; with_reducible rfl)
            refine wpAnyD_take (i := 3) (v := ?_) rfl (by kernel_rfl) (by kernel_rfl) (by kernel_rfl) (by kernel_rfl) (fun _ _ _ h => h) (Or.inl ⟨by rfl, ?_⟩) hS0 ?_
            rotate_left
            · intro w _; first | (go_simp; done) | (go_simp; with_reducible rfl)
            refine wpAnyD_take (i := 4) (v := ?_) rfl (by kernel_rfl) (by kernel_rfl) (by kernel_rfl) (by kernel_rfl) (fun _ _ _ h => h) (Or.inl ⟨by rfl, ?_⟩) hS0 ?_
            rotate_left
            · intro w hw; obtain s1' := hw; first | (go_simp; done) | (go_simp; with_reducible rfl)
            refine wpAnyD_take (i := 5) (v := ?_) rfl (by kernel_rfl) (by kernel_rfl) (by kernel_rfl) (by kernel_rfl) (fun _ _ _ h => h) (Or.inl ⟨by rfl, ?_⟩) hS0 ?_
            rotate_left
            · intro w _; first | (go_simp; done) | (go_simp; with_reducible rfl)
            refine wpAnyD_one (i := 6) (by kernel_rfl) rfl (fun KK hKK => ?_)
            go_simp
            go_at_call 72
            refine (hpow.out _).mono ?_; rintro e w5 ⟨rfl, rfl⟩
            refine hKK _ _ ⟨fun _ => hS0, ?_⟩; clear hKK KK
            refine wpAnyD_take (i := 7) (v := ?_) rfl (by kernel_rfl) (by kernel_rfl) (by kernel_rfl) (by kernel_rfl) (fun _ _ _ h => h) (Or.inl ⟨by rfl, ?_⟩) hS0 ?_
            rotate_left
            · intro w _; first | (go_simp; done) | (go_simp; with_reducible rfl)
            refine wpAnyD_one (i := 8) (by kernel_rfl) rfl (fun KK hKK => ?_)
            go_simp
            go_at_call 71
            refine (hmod.out _).mono ?_; rintro e w6 ⟨rfl, rfl⟩
            refine hKK _ _ ⟨fun _ => hS0, ?_⟩; clear hKK KK
            refine wpAnyD_take (i := 9) (v := ?_) rfl (by kernel_rfl) (by kernel_rfl) (by kernel_rfl) (by kernel_rfl) (fun _ _ _ h => h) (Or.inl ⟨by rfl, ?_⟩) hS0 ?_
            rotate_left
            · intro w _; first | (go_simp; done) | (go_simp; with_reducible rfl)
            refine wpAnyD_done (by kernel_rfl) ?_ _
            go_simp
            by_cases hkr : k < r
            · have hkr' : (k : Int) < (r : Int) := by omega
              have hkd : decide ((k : Int) < (r : Int)) = true := decide_eq_true hkr'
              have hfm := hid (fitP_mono (addE (exJ a j) (mulE k (paramE j))) hfq.out)
              have hMV := hMd.toV hfm.out (by omega)
              rw [hml.out] at hMV
              have HMV := hid hMV
              have hstep := hid (mono_param (addE (exJ a j) (mulE k (paramE j))) q j hj3)
              have hfp := hid (fit_param (j : Int))
              clear hMd hMV hS0
              go_wp2_with fail
              refine (hparm.out _).mono ?_; rintro e w7 ⟨ro', rc', rfl, hR7, hb7⟩
              have hRV := hR7.toV hfp.out (by omega)
              have hP7 := hPd.next hb7
              have hbel7 := below_chain hbeld hb7
              have hmul := hid (rPMul_any _ (paramP (j : Int)) _ _ _ (HMV.out.next hb7) hRV 1 1 1 hfm.out hfp.out (.inr (lst_param_len _)) (by decide))
              clear hR7 hRV hPd hbeld
              go_wp2_with fail
              refine hmul.out.mono ?_; intro e w8 hout8
              have hout9 := hout8.congr hstep.out
              rw [mulE_succ] at hout9
              obtain ⟨no, nc, rfl, hN8, hb8⟩ := hout9
              have hP8 := hP7.next hb8
              have hbel8 := below_chain hbel7 hb8
              obtain ⟨nl, hnl⟩ : ∃ n, (lst (monoP (addE (exJ a j) (mulE (k + 1) (paramE j))) q)).length = n := ⟨_, rfl⟩
              have Hnl := hid hnl
              rw [hnl]
              clear hnl hout8 hmul hP7
              go_wp2_with fail
              go_roundw
              case rel => exact ⟨k + 1, no, nc, nl, by omega, by go_num, rfl, Hnl, hN8, hP8, hbel8⟩
              case measure => simp [intOf]; omega
            · obtain rfl : k = r := by omega
              have hkd : decide ((k : Int) < (k : Int)) = false := by simp
              have hnx : Hid (addE (exJ a j) (mulE k (paramE j)) = exJ a (j + 1)) := hid (by show _ = addE (exJ a j) (mulE (digX a j) (paramE j)); rw [hdig.out])
              rw [hnx.out] at hml hMd
              clear hS0
              go_wp2_with fail
              go_roundw
              case rel => exact ⟨j + 1, mo, mc, ml, by omega, by go_num, rfl, hml, hMd, hPd, hbeld⟩
              case measure => simp [intOf]; omega
        · obtain rfl : j = 3 := by omega
          have hfS := hid (fit_madeS l t)
          have hPV := hP.toV ((fit_madeS l t).mono Hi8.out.2.2.2) (by omega)
          have hMV := hM.toV (fitP_mono (exJ a 3) hfq.out) (by omega)
          rw [hpn.out] at hPV
          rw [hml.out] at hMV
          have hadd := hid (rPAdd_any (madeS l t) (monoP (exJ a 3) q) _ _ _ hPV hMV 9 (hfS.out.mono Hi8.out.2.2.2) ((fitP_mono (exJ a 3) hfq.out).mono (by omega)) (by decide))
          have hnext : Hid (addP (madeS l t) (monoP (exJ a 3) q) = madeS l (t + 1)) := hid (by rw [← hgrp.out]; rfl)
          rw [hnext.out] at hadd
          clear hP hM hPV hMV
          go_wp2_with fail
          refine hadd.out.mono ?_; rintro e w3 ⟨no, nc, rfl, hN3, hb3⟩
          have hbel3 := below_chain hbelj hb3
          obtain ⟨nl, hnl⟩ : ∃ n, (lst (madeS l (t + 1))).length = n := ⟨_, rfl⟩
          have Hnl := hid hnl
          rw [hnl]
          clear hnl hadd
          go_wp2_with fail
          go_roundw
          case rel => exact ⟨t + 1, no, nc, nl, Hi8.out.1, Hi8.out.2.1, by rw [Hi8.out.2.2.1]; go_num, rfl, Hnl, hN3, hbel3⟩
          case measure => simp [intOf]; omega
    · have hend : Hid (madeS l t = madeP l) := hid (by
        unfold madeP
        congr 1
        rw [hn.out]
        omega)
      clear hi
      have hg1 : decide ((i : Int) + 1 < (n : Int)) = false ∨ (decide ((i : Int) + 1 < (n : Int)) = true ∧ decide ((i : Int) < 8) = false) := by
        by_cases h1 : i + 1 < n
        · exact .inr ⟨decide_eq_true (by omega), decide_eq_false (by omega)⟩
        · exact .inl (decide_eq_false (by omega))
      rw [hend.out] at hP hpn
      rcases hg1 with hg1 | ⟨hg1, hg2⟩
      · go_wp2_with fail
        go_ret
        exact ⟨po, pc, by rw [hpn.out]; rfl, hP, hbel⟩
      · go_wp2_with fail
        go_ret
        exact ⟨po, pc, by rw [hpn.out]; rfl, hP, hbel⟩
end Go.Proofs.YtgohfieleckmgaaGreatDoor
