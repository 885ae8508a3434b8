/-
  Joined out of XPlk, XPla, XPlo.
-/
import Derived.Test.YtgohfieleckmgaaGreatDoorPtx
import Derived.Test.YtgohfieleckmgaaGreatDoorPlyS
import Derived.Test.YtgohfieleckmgaaGreatDoorPoh
import Derived.Test.YtgohfieleckmgaaGreatDoorPfn
import Derived.Test.YtgohfieleckmgaaGreatDoorPrwS
import Derived.Test.YtgohfieleckmgaaGreatDoorPos
import Derived.Test.YtgohfieleckmgaaGreatDoorOpenP
import Derived.Test.YtgohfieleckmgaaGreatDoorMod

/-
  Made polynomials, the examples of the chapter, texts of small numbers: plain facts. No condition, no program.
-/
namespace Go.Proofs.YtgohfieleckmgaaGreatDoor
open Go.RowKit Go.Lib
set_option linter.unusedSimpArgs false
set_option linter.unusedVariables false

theorem mono_far {d : Ex} (q : Rat) (h : ¬ deg d ≤ 5) : EqP (monoP d q) fun _ => 0 := fun e he => if_neg fun k => h (by rw [← k]; exact he)
theorem mono_cof (d : Ex) (q : Rat) : monoP d q = cof [(d, q)] := by
  funext e
  rw [cof_cons, cof_nil]
  unfold monoP
  by_cases h : e = d
  · rw [if_pos h, if_pos h.symm]; grind
  · rw [if_neg h, if_neg fun k => h k.symm]; grind
theorem zero_mulP (Q : Pl) : EqP (mulP (fun _ => 0) Q) fun _ => 0 := fun e _ => by
  unfold mulP
  exact sumL_zero fun a _ => sumL_zero fun b _ => by split <;> grind
theorem mono_mul (d e : Ex) (q r : Rat) (he : deg e ≤ 5) : EqP (mulP (monoP d q) (monoP e r)) (monoP (addE d e) (q * r)) := by
  by_cases hd : deg d ≤ 5
  · have h := cof_pairs [(d, q)] [(e, r)] (by simpa using hd) (by simpa using he)
    rw [mono_cof, mono_cof, mono_cof]
    exact h.symm
  · rw [mulP_congr (mono_far q hd) (EqP.refl (monoP e r))]
    refine (zero_mulP _).trans (mono_far _ ?_).symm
    rw [deg_add]; omega

/-! ### The examples -/
theorem ex_sum : EqP (addP (paramP 0) (paramP 1)) (cof [((1, 0, 0), 1), ((0, 1, 0), 1)]) := fun e _ => by
  show monoP (1, 0, 0) 1 e + monoP (0, 1, 0) 1 e = _
  simp only [mono_cof, cof_cons, cof_nil]
  grind
theorem ex_square : lst (mulP (addP (paramP 0) (paramP 1)) (addP (paramP 0) (paramP 1))) = [((2, 0, 0), 1), ((1, 1, 0), 2), ((0, 2, 0), 1)] := by
  rw [mulP_congr ex_sum ex_sum, ← lst_congr (cof_pairs _ _ (by decide) (by decide))]
  decide +kernel
theorem half : makeRat 1 2 = 1 / 2 := by decide +kernel
/-- a + 1/2. -/
def exP : Pl := addP (paramP 0) (constP (makeRat 1 2))
theorem exP_zero : exP (0, 0, 0) = 1 / 2 := by decide +kernel
theorem exP_eq : EqP exP (cof [((1, 0, 0), 1), ((0, 0, 0), 1 / 2)]) := fun e _ => by
  show monoP (1, 0, 0) 1 e + constP (makeRat 1 2) e = _
  rw [half, show constP (1 / 2) = monoP (0, 0, 0) (1 / 2) from rfl]
  simp only [mono_cof, cof_cons, cof_nil]
  grind
theorem exP_lst : lst exP = [((1, 0, 0), 1), ((0, 0, 0), 1 / 2)] := by
  rw [lst_congr exP_eq]
  decide +kernel
theorem exP_ok : starOk exP = true := by
  unfold starOk
  rw [exP_zero]
  decide +kernel
theorem exP_step : EqP (stepP exP) (monoP (1, 0, 0) 2) := by
  refine (stepP_eq exP).trans fun e he => ?_
  show (exP e + constP (-exP (0, 0, 0)) e) * (1 / (1 - exP (0, 0, 0))) = _
  rw [exP_eq e he, exP_zero, show constP (-(1 / 2 : Rat)) = monoP (0, 0, 0) (-(1 / 2)) from rfl]
  simp only [mono_cof, cof_cons, cof_nil]
  have h2 : (1 : Rat) / (1 - 1 / 2) = 2 := by decide +kernel
  rw [h2]
  by_cases h1 : ((1, 0, 0) : Ex) = e
  · have h0 : ¬ ((0, 0, 0) : Ex) = e := fun h => by rw [← h1] at h; simp at h
    rw [if_pos h1, if_pos h1, if_neg h0, if_neg h0]; grind
  · rw [if_neg h1, if_neg h1]
    by_cases h0 : ((0, 0, 0) : Ex) = e
    · rw [if_pos h0, if_pos h0]; grind
    · rw [if_neg h0, if_neg h0]; grind
theorem exP_pow : ∀ k, EqP (powP (constP 2) (stepP exP) k) (monoP (k, 0, 0) (2 ^ (k + 1)))
  | 0 => fun e _ => by
    show (if e = (0, 0, 0) then (2 : Rat) else 0) = if e = (0, 0, 0) then 2 ^ 1 else 0
    rw [show (2 : Rat) ^ 1 = 2 by decide +kernel]
  | k + 1 => by
    show EqP (mulP (powP (constP 2) (stepP exP) k) (stepP exP)) _
    rw [mulP_congr (exP_pow k) exP_step]
    refine (mono_mul _ _ _ _ (by decide)).trans ?_
    rw [show addE (k, 0, 0) (1, 0, 0) = (k + 1, 0, 0) from rfl, ← Rat.pow_succ]
    exact EqP.refl _
theorem exP_star : lst (starP exP) = [((5, 0, 0), 64), ((4, 0, 0), 32), ((3, 0, 0), 16), ((2, 0, 0), 8), ((1, 0, 0), 4), ((0, 0, 0), 2)] := by
  have hc : (1 : Rat) / (1 - exP (0, 0, 0)) = 2 := by rw [exP_zero]; decide +kernel
  have h : EqP (starP exP) (cof [((5, 0, 0), 64), ((4, 0, 0), 32), ((3, 0, 0), 16), ((2, 0, 0), 8), ((1, 0, 0), 4), ((0, 0, 0), 2)]) := fun e he => by
    show geoP (constP (1 / (1 - exP (0, 0, 0)))) (stepP exP) 5 e = _
    rw [hc]
    show (((((powP (constP 2) (stepP exP) 0 e + powP (constP 2) (stepP exP) 1 e) + powP (constP 2) (stepP exP) 2 e) + powP (constP 2) (stepP exP) 3 e) + powP (constP 2) (stepP exP) 4 e) + powP (constP 2) (stepP exP) 5 e) = _
    rw [exP_pow 0 e he, exP_pow 1 e he, exP_pow 2 e he, exP_pow 3 e he, exP_pow 4 e he, exP_pow 5 e he]
    rw [show (2 : Rat) ^ (0 + 1) = 2 by decide +kernel, show (2 : Rat) ^ (1 + 1) = 4 by decide +kernel, show (2 : Rat) ^ (2 + 1) = 8 by decide +kernel, show (2 : Rat) ^ (3 + 1) = 16 by decide +kernel, show (2 : Rat) ^ (4 + 1) = 32 by decide +kernel, show (2 : Rat) ^ (5 + 1) = 64 by decide +kernel]
    simp only [mono_cof, cof_cons, cof_nil]
    grind
  rw [lst_congr h]
  decide +kernel

theorem fmtQ_nat (n : Nat) (q : Rat) (h1 : q.num = n) (h2 : q.den = 1) : fmtQ q = decDigits n := by
  unfold fmtQ
  rw [h1, h2, if_neg (by omega), if_pos rfl]
  simp
theorem dec_two (n : Nat) (h : 10 ≤ n) (h' : n < 100) : decDigits n = [UInt8.ofNat (48 + n / 10), UInt8.ofNat (48 + n % 10)] := by
  rw [dec_ten h, decDigits_one (by omega)]; rfl
theorem f2 : fmtQ (absQ 2) = [50] := by rw [fmtQ_nat 2 _ (by decide +kernel) (by decide +kernel), decDigits_one (by decide)]; rfl
theorem f4 : fmtQ (absQ 4) = [52] := by rw [fmtQ_nat 4 _ (by decide +kernel) (by decide +kernel), decDigits_one (by decide)]; rfl
theorem f8 : fmtQ (absQ 8) = [56] := by rw [fmtQ_nat 8 _ (by decide +kernel) (by decide +kernel), decDigits_one (by decide)]; rfl
theorem f16 : fmtQ (absQ 16) = [49, 54] := by rw [fmtQ_nat 16 _ (by decide +kernel) (by decide +kernel), dec_two _ (by decide) (by decide)]; rfl
theorem f32 : fmtQ (absQ 32) = [51, 50] := by rw [fmtQ_nat 32 _ (by decide +kernel) (by decide +kernel), dec_two _ (by decide) (by decide)]; rfl
theorem f64 : fmtQ (absQ 64) = [54, 52] := by rw [fmtQ_nat 64 _ (by decide +kernel) (by decide +kernel), dec_two _ (by decide) (by decide)]; rfl
theorem cof_is {e : Ex} {q : Rat} {l : List UInt8} (h : absQ q ≠ 1) (hl : fmtQ (absQ q) = l) : cofT e (absQ q) = [l] := by unfold cofT; rw [if_pos (.inl h), hl]
theorem cof_one {e : Ex} {q : Rat} (h : absQ q = 1) (hd : deg e ≠ 0) : cofT e (absQ q) = [] := by unfold cofT; rw [if_neg (by rintro (k | k); exact k h; exact hd k)]
theorem one_text {f : Bool} {e : Ex} {q : Rat} {l : List (List UInt8)} (hs : decide (q.num < 0) = false) (hc : cofT e (absQ q) = l) : oneT f (e, q) = sigT f false ++ join (l ++ parT e) [42] := by
  unfold oneT monT
  rw [show decide ((e, q).2.num < 0) = false from hs, hc]
theorem ex_text1 : fmtP (mulP (addP (paramP 0) (paramP 1)) (addP (paramP 0) (paramP 1))) = [97, 94, 50, 32, 43, 32, 50, 42, 97, 42, 98, 32, 43, 32, 98, 94, 50] := by
  unfold fmtP
  rw [ex_square, if_neg (by simp)]
  unfold txtL
  simp only [List.map_cons, List.map_nil]
  rw [one_text (by decide +kernel) (cof_one (by decide +kernel) (by decide)), one_text (by decide +kernel) (cof_is (by decide +kernel) f2), one_text (by decide +kernel) (cof_one (by decide +kernel) (by decide))]
  decide +kernel
theorem ex_text2 : fmtP (starP exP) = [54, 52, 42, 97, 94, 53, 32, 43, 32, 51, 50, 42, 97, 94, 52, 32, 43, 32, 49, 54, 42, 97, 94, 51, 32, 43, 32, 56, 42, 97, 94, 50, 32, 43, 32, 52, 42, 97, 32, 43, 32, 50] := by
  unfold fmtP
  rw [exP_star, if_neg (by simp)]
  unfold txtL
  simp only [List.map_cons, List.map_nil]
  rw [one_text (by decide +kernel) (cof_is (by decide +kernel) f64), one_text (by decide +kernel) (cof_is (by decide +kernel) f32), one_text (by decide +kernel) (cof_is (by decide +kernel) f16), one_text (by decide +kernel) (cof_is (by decide +kernel) f8), one_text (by decide +kernel) (cof_is (by decide +kernel) f4), one_text (by decide +kernel) (cof_is (by decide +kernel) f2)]
  decide +kernel
theorem fit_exP : FitP 3 exP := by
  have h1 : FitP 1 (paramP 0) := fit_param 0
  have h2 : Fit 1 (makeRat 1 2) := ⟨by rw [show (makeRat 1 2).num = 1 by decide +kernel]; exact lim_small (by decide), by rw [show (makeRat 1 2).den = 2 by decide +kernel]; exact lim_small (by decide)⟩
  exact FitP.add h1 (fitP_const h2)
theorem fit_half : Fit 1 (makeRat 1 2) := ⟨by rw [show (makeRat 1 2).num = 1 by decide +kernel]; exact lim_small (by decide), by rw [show (makeRat 1 2).den = 2 by decide +kernel]; exact lim_small (by decide)⟩

/-! ### Made polynomials -/
end Go.Proofs.YtgohfieleckmgaaGreatDoor

/-
  The contracts of the statements' helpers of layer 2: awake, light, pow, poly, and of made.Number. No condition but sizes and the table of powers of ten.
-/
namespace Go.Proofs.YtgohfieleckmgaaGreatDoor
open Go.RowKit
set_option linter.unusedSimpArgs false
set_option linter.unusedVariables false

theorem str_eq {s : ByteArray} {l : List UInt8} (h : s.data.toList = l) : s = ⟨l.toArray⟩ := by
  rw [← h]

set_option maxRecDepth 100000 in
set_option maxHeartbeats 4000000 in
theorem lpawake_any (w : World) (hp : Pow w) : Calls Tryz.prog 13 #[] w fun e w' => e = .returned (.bool true) ∧ Below w.heap.size w w' := by
  have hpar0 := hid (fun W => pParam_any 0 W)
  have hpar1 := hid (fun W => pParam_any 1 W)
  obtain ⟨n0, hn0⟩ : ∃ n, (lst (paramP 0)).length = n := ⟨_, rfl⟩
  obtain ⟨n1, hn1⟩ : ∃ n, (lst (paramP 1)).length = n := ⟨_, rfl⟩
  have f0 : Hid (FitP 1 (paramP 0)) := hid (fit_param 0)
  have f1 : Hid (FitP 1 (paramP 1)) := hid (fit_param 1)
  have hE0 : Hid (starE exP = 0) := hid (by unfold starE; rw [exP_ok]; rfl)
  have hR0 : Hid (starR exP = starP exP) := hid (by unfold starR; rw [exP_ok]; rfl)
  have hsz := hid (star_sizes fit_exP (by decide) (by rw [exP_lst]; decide) 5 (by decide))
  have hfs : Hid (FitP 10000000 (starP exP)) := hid hsz.out.2
  have Hp := hid hp
  clear hp hn0 hn1 hsz
  go_enter Tryz.func13, Tryz.ntmps13
  go_wp2_with fail
  refine (hpar0.out _).mono ?_; rintro e w1 ⟨ao, ac, rfl, hA1, hb1⟩
  go_wp2_with fail
  refine (hpar1.out _).mono ?_; rintro e w2 ⟨bo, bc, rfl, hB2, hb2⟩
  have hA2 := (hA1.next hb2).toV f0.out (by omega)
  have hB2 := hB2.toV f1.out (by omega)
  have hbel2 := below_chain hb1 hb2
  clear hA1
  go_wp2_with fail
  refine (pAdd_any _ _ _ _ _ hA2 hB2 1 f0.out f1.out (by decide)).mono ?_; rintro e w3 ⟨co, cc, rfl, hC3, hb3⟩
  have hA3 := hA2.next hb3
  have hC3 := hC3.toV (FitP.add f0.out f1.out) (by decide)
  have hbel3 := below_chain hbel2 hb3
  clear hA2 hB2
  go_wp2_with fail
  refine (rOf_any 1 2 (by decide) (by decide) (by decide) (by decide) _).mono ?_; rintro e w4 ⟨v4, rfl, C4, hb4⟩
  obtain ⟨rb, ro, rn, rc, so, sn, sc, rfl⟩ := C4.shape
  have hA4 := hA3.next hb4
  have hC4 := hC3.next hb4
  have hbel4 := below_chain hbel3 hb4
  clear hA3 hC3
  go_wp2_with fail
  refine (pConst_any _ _ _ (C4.toV fit_half (by decide)) 1 fit_half (by decide)).mono ?_; rintro e w5 ⟨co5, cc5, rfl, hK5, hb5⟩
  have hA5 := hA4.next hb5
  have hC5 := hC4.next hb5
  have hK5 := hK5.toV (fitP_const fit_half) (by decide)
  have hbel5 := below_chain hbel4 hb5
  clear hA4 hC4 C4
  go_wp2_with fail
  refine (pAdd_any _ _ _ _ _ hA5 hK5 1 f0.out (fitP_const fit_half) (by decide)).mono ?_; rintro e w6 ⟨do6, dc6, rfl, hD6, hb6⟩
  have hC6 := hC5.next hb6
  have hD6' : PolC w6 do6 dc6 exP := hD6
  have hDV := hD6'.toV fit_exP (by decide)
  have hbel6 := below_chain hbel5 hb6
  rw [show (lst (addP (paramP 0) (constP (makeRat 1 2)))).length = (lst exP).length from rfl]
  clear hA5 hC5 hK5 hD6 hD6'
  go_wp2_with fail
  refine (pStar_any exP _ _ hDV 3 fit_exP (by decide) (by rw [exP_lst]; decide)).mono ?_
  rw [hE0.out, hR0.out]
  rintro e w7 ⟨so7, sc7, rfl, hS7, hb7⟩
  have hC7 := hC6.next hb7
  have hSV := hS7.toV hfs.out (by decide)
  have hbel7 := below_chain hbel6 hb7
  clear hC6 hDV hS7
  go_wp2_with fail
  refine (pMul_any _ _ _ _ _ hC7 hC7 3 3 56 (FitP.add f0.out f1.out) (FitP.add f0.out f1.out) (.inl (len_lst _)) (by decide)).mono ?_; rintro e w8 ⟨mo8, mc8, rfl, hM8, hb8⟩
  have hfm : FitP (56 * (3 + 3 + 1) + 3 + 3 + 2) (mulP (addP (paramP 0) (paramP 1)) (addP (paramP 0) (paramP 1))) := fit_mulP (FitP.add f0.out f1.out) (FitP.add f0.out f1.out) (.inl (len_lst _))
  have hMV := hM8.toV hfm (by decide)
  have hSV8 := hSV.next hb8
  have hbel8 := below_chain hbel7 hb8
  clear hC7 hSV hM8
  go_wp2_with fail
  refine (pFormat_any _ _ _ hMV _ hfm (by decide) (Hp.out.next hbel8)).mono ?_
  rw [ex_text1]
  rintro e w9 ⟨s9, rfl, hs9, hb9⟩
  obtain rfl := str_eq hs9
  have hSV9 := hSV8.next hb9
  have hbel9 := below_chain hbel8 hb9
  clear hMV hSV8 hs9
  go_wp2_with fail
  refine (pFormat_any _ _ _ hSV9 _ hfs.out (by decide) (Hp.out.next hbel9)).mono ?_
  rw [ex_text2]
  rintro e wa ⟨sa, rfl, hsa, hba⟩
  obtain rfl := str_eq hsa
  have hbela := below_chain hbel9 hba
  clear hSV9 hsa
  go_wp2_with fail
  go_ret
  exact ⟨rfl, hbela⟩

/-! ### light -/
/-- A light argument reads as a polynomial of small numbers. -/
theorem ratW_light {w : World} {s : Bool} {xo : Option Addr} {xn xc : Nat} {yo : Option Addr} {yn yc : Nat} {q : Rat} (h : RatW w (.agg #[.bool s, .slice xo xn xc, .slice yo yn yc]) q) (h1 : xn ≤ 2) (h2 : yn ≤ 2) : RatV w (.agg #[.bool s, .slice xo xn xc, .slice yo yn yc]) q ∧ Fit 2 q := by
  obtain ⟨neg, N, D, ao, bo, n, cap, m, cap', e, hN, hD, LN, LD, zb, zc, hq⟩ := h
  simp only [Value.agg.injEq, Array.mk.injEq, List.cons.injEq, Value.bool.injEq, Value.slice.injEq, and_true] at e
  obtain ⟨rfl, ⟨rfl, rfl, rfl⟩, rfl, rfl, rfl⟩ := e
  refine ⟨⟨_, N, D, _, _, _, _, _, _, rfl, hN, hD, LN, LD, zb, zc, by omega, by omega, hq⟩, ?_⟩
  rw [← hq]
  exact ratOf_fit LN LD (by rw [hN.lenU]; exact h1) (by rw [hD.lenU]; exact h2) (by decide)
theorem ratW_bounds {w : World} {s : Bool} {xo : Option Addr} {xn xc : Nat} {yo : Option Addr} {yn yc : Nat} {q : Rat} (h : RatW w (.agg #[.bool s, .slice xo xn xc, .slice yo yn yc]) q) : xn ≤ 9223372036854775807 ∧ yn ≤ 9223372036854775807 := by
  obtain ⟨neg, N, D, ao, bo, n, cap, m, cap', e, hN, hD, LN, LD, zb, zc, hq⟩ := h
  simp only [Value.agg.injEq, Array.mk.injEq, List.cons.injEq, Value.bool.injEq, Value.slice.injEq, and_true] at e
  obtain ⟨rfl, ⟨rfl, rfl, rfl⟩, rfl, rfl, rfl⟩ := e
  exact ⟨hN.bound, hD.bound⟩
/-- What light says of a list: its elements ahead of i are light. -/
def LightTo (w : World) (ao : Option Addr) (l : List Mr) (i : Nat) : Prop := ∀ (j : Nat) (m : Mr), j < i → l[j]? = some m → Fit 2 m.2 ∧ ∃ b o, ao = some ⟨b, o, none⟩ ∧ ∃ x : Mo, Hex w b (o + j * 6) x ∧ x.1 = m.1 ∧ RatV w (ratM x) m.2

set_option maxRecDepth 100000 in
set_option maxHeartbeats 2000000 in
theorem plight_any (ao : Option Addr) (n cap : Nat) (l : List Mr) (w : World) (h : Pol RatW w ao n cap l) :
    Calls Tryz.prog 11 #[.slice ao n cap] w fun e w' => (∃ c, e = .returned (.bool c) ∧ (c = true → n ≤ 8 ∧ Pol RatV w ao n cap l ∧ ∀ m ∈ l, Fit 2 m.2)) ∧ Below w.heap.size w w' := by
  have hb := h.bound
  have H := hid h
  by_cases h8 : n ≤ 8
  · have c1 : decide ((8 : Int) < (n : Int)) = false := by rw [decide_eq_false_iff_not]; omega
    have hlen := hid h.len
    clear h
    go_enter Tryz.func11, Tryz.ntmps11
    go_wp2_with fail
    go_loopw [3] (fun iv wr => ∃ i : Nat, i ≤ n ∧ iv = .int .i64 i ∧ Hid (LightTo w ao l i) ∧ Below w.heap.size w wr) (fun i _ => n - (intOf i).toNat)
    case atStart => exact ⟨0, by omega, rfl, hid (fun j m hj => by omega), Below.refl _ _⟩
    case round =>
      obtain ⟨i, hi, rfl, hall, hbel⟩ := hrel
      by_cases hlt : i < n
      · obtain ⟨b, o, x, y, z, s, xo, xn, xc, yo, yn, yc, q, hm, rfl, hx, hr⟩ := H.out.at_ hlt
        obtain ⟨⟨x0, x1, x2⟩, x3, x4, x5⟩ := (hx.next hbel).h6
        have hbd := ratW_bounds hr
        have hli := hid (fun W => rLight_any s xo yo xn xc yn yc 2 hbd.1 hbd.2 W)
        have hok := hid (fun (h1 : xn ≤ 2) (h2 : yn ≤ 2) => ratW_light hr h1 h2)
        have HX := hid hx
        have Hm := hid hm
        obtain ⟨c, hc⟩ : ∃ c, (decide ((xn : Int) ≤ 2) && decide ((yn : Int) ≤ 2)) = c := ⟨_, rfl⟩
        rw [hc] at hli
        have Hc := hid hc
        have i0 : (0 : Int) ≤ (i : Int) := by omega
        have i1 : (i : Int) < (n : Int) := by omega
        clear hc hr hx hm hbd
        go_wp2_with fail
        refine (hli.out _).mono ?_; rintro e w2 ⟨rfl, hb2⟩
        have hbel2 := below_chain hbel hb2
        clear x0 x1 x2 x3 x4 x5
        cases c with
        | false =>
          go_wp2_with fail
          go_ret
          exact ⟨⟨false, rfl, fun h => by cases h⟩, hbel2⟩
        | true =>
          have hall2 : Hid (LightTo w (some ⟨b, o, none⟩) l (i + 1)) := hid (fun j m hj hjm => by
            rcases Nat.lt_succ_iff_lt_or_eq.1 hj with h1 | h1
            · exact hall.out j m h1 hjm
            · subst h1
              rw [Hm.out] at hjm
              injection hjm with hjm
              subst hjm
              have hcc := Hc.out
              simp only [Bool.and_eq_true, decide_eq_true_eq] at hcc
              obtain ⟨k1, k2⟩ := hok.out (by omega) (by omega)
              exact ⟨k2, b, o, rfl, _, HX.out, rfl, k1⟩)
          go_wp2_with fail
          go_roundw
          case rel => exact ⟨i + 1, by omega, by go_num, hall2, hbel2⟩
          case measure => simp [intOf]; omega
      · obtain rfl : i = n := by omega
        go_wp2_with fail
        go_ret
        refine ⟨⟨true, rfl, fun _ => ⟨h8, ?_, ?_⟩⟩, hbel⟩
        · obtain ⟨h0, h1, h2, h3, h4⟩ := H.out
          refine ⟨h0, h1, h2, h3, fun j m hm => ?_⟩
          exact (hall.out j m (by rw [← h0]; exact (List.getElem?_eq_some_iff.1 hm).1) hm).2
        · intro m hm
          obtain ⟨j, hj⟩ := List.getElem?_of_mem hm
          exact (hall.out j m (by rw [← hlen.out]; exact (List.getElem?_eq_some_iff.1 hj).1) hj).1
  · have c1 : decide ((8 : Int) < (n : Int)) = true := by rw [decide_eq_true_iff]; omega
    clear h
    go_enter Tryz.func11, Tryz.ntmps11
    go_wp2_with fail
    go_ret
    exact ⟨⟨false, rfl, fun h => by cases h⟩, Below.refl _ _⟩
end Go.Proofs.YtgohfieleckmgaaGreatDoor

/-
  The contracts of pow and poly of the statements about layer 2. No condition but sizes.
-/
namespace Go.Proofs.YtgohfieleckmgaaGreatDoor
open Go.RowKit
set_option linter.unusedSimpArgs false
set_option linter.unusedVariables false

/-! ### Made polynomials, plain -/
/-! ### pow -/
/-! ### poly -/
end Go.Proofs.YtgohfieleckmgaaGreatDoor

