/-
  The contracts of integer, Scale, Parameter and Lowest of package polynomial. No condition but sizes.
-/
import Derived.Test.YtgohfieleckmgaaGreatDoorPog
namespace Go.Proofs.YtgohfieleckmgaaGreatDoor
open Go.RowKit
set_option linter.unusedSimpArgs false
set_option linter.unusedVariables false

theorem make_one : makeRat 1 1 = 1 := by decide +kernel
theorem fit1 : Fit 1 (1 : Rat) := fit_one (by decide)

set_option maxHeartbeats 1000000 in
theorem int1_any (w : World) : Calls Tryz.prog 64 #[.int .i64 1] w (RatOut w 1) := by
  have hr := Res.start (Below.refl w.heap.size w) false none 0 0 none 0 0 25
  have hmk := hid (fun W => by have := Make_any 1 1 (by decide) (by decide) (by decide) (by decide) W; rwa [make_one] at this)
  go_enter Tryz.func64, Tryz.ntmps64
  go_wp2_with fail
  refine (hmk.out _).mono ?_; rintro e w1 ⟨v1, rfl, C1, hb1⟩
  obtain ⟨rb, ro, rn, rc, so, sn, sc, rfl⟩ := C1.shape
  have hr1 := (hr.next hb1).new (.cells #[.bool rb, .slice ro rn rc, .slice so sn sc] 25)
  obtain ⟨d0, d1, d2, g0, g1, g2, _, _, _, _⟩ := hr1
  have hr1 := (hr.next hb1).new (.cells #[.bool rb, .slice ro rn rc, .slice so sn sc] 25)
  go_wp2_with fail
  refine bodyPost_ret (v := .agg #[.bool rb, .slice ro rn rc, .slice so sn sc]) (by simp [results, Tryz.results64, go_sem, d0, d1, d2]) rfl ?_
  exact hr1.rc (C1.next (below_alloc _))

theorem lst_mono {d : Ex} {q : Rat} (hd : deg d ≤ 5) (hq : q ≠ 0) : lst (monoP d q) = [(d, q)] := by
  have h : Vl [(d, q)] := ⟨List.pairwise_singleton _ _, fun m hm => by rw [List.mem_singleton.1 hm]; exact ⟨hd, hq⟩⟩
  rw [vl_eq h]
  refine lst_congr fun e _ => ?_
  rw [cof_cons, cof_nil]
  unfold monoP
  by_cases k : e = d
  · rw [if_pos k, if_pos k.symm]; grind
  · rw [if_neg k, if_neg fun j => k j.symm]; grind
theorem lst_const_len (q : Rat) : (lst (constP q)).length ≤ 1 := by
  by_cases h : q = 0
  · have : lst (constP q) = [] := by
      rw [← lst_zero]
      exact lst_congr fun e _ => by unfold constP; split <;> simp [h]
    rw [this]; decide
  · have : lst (constP q) = [((0, 0, 0), q)] := lst_mono (d := (0, 0, 0)) (by decide) h
    rw [this]; simp

set_option maxHeartbeats 1000000 in
theorem pScale_any (P : Pl) (q : Rat) (v v2 : Value) (w : World) (h : PolV w v P) (h' : RatV w v2 q) (k l : Nat) (hP : FitP k P) (hq : Fit l q) (hk : 2 * (k + l) + 3 ≤ 4294967296) : Calls Tryz.prog 21 #[v, v2] w (PolOut w (mulP P (constP q))) := by
  obtain ⟨ao, n, cap, _, rfl, _⟩ := id h
  obtain ⟨s, xo, xn, xc, yo, yn, yc, rfl⟩ := h'.shape
  have hb0 : Below w.heap.size w (w.alloc (.cells #[.bool s, .slice xo xn xc, .slice yo yn yc] 25)) := below_alloc _
  have hC : C3 w.heap.size (.bool s) (.slice xo xn xc) (.slice yo yn yc) (w.alloc (.cells #[.bool s, .slice xo xn xc, .slice yo yn yc] 25)) := C3.here w _ rfl
  obtain ⟨c0, c1, c2⟩ := hC
  have hcon := hid (pConst_any q _ _ (h'.next hb0) l hq (by omega))
  have hmul := hid (fun W (hb : Below (w.alloc (.cells #[.bool s, .slice xo xn xc, .slice yo yn yc] 25)).heap.size (w.alloc (.cells #[.bool s, .slice xo xn xc, .slice yo yn yc] 25)) W) co cc (hc : PolC W co cc (constP q)) =>
    pMul_any P (constP q) _ _ W ((h.next hb0).next hb) (hc.toV (fitP_const hq) (by omega)) k l 1 hP (fitP_const hq) (.inr (lst_const_len q)) (by omega))
  clear h h'
  go_enter Tryz.func21, Tryz.ntmps21
  go_wp2_with fail
  refine hcon.out.mono ?_; rintro e w1 ⟨co, cc, rfl, hc, hb1⟩
  have hm := hid (hmul.out _ hb1 co cc hc)
  have hbel := below_chain hb0 hb1
  go_wp2_with fail
  refine hm.out.mono ?_; rintro e w2 ⟨ro, rc, rfl, hP2, hb2⟩
  go_wp2_with fail
  go_ret
  exact PolOut.old ⟨ro, rc, rfl, hP2, hb2⟩ hbel

/-! ### Parameter -/
def paramE (i : Int) : Ex := if i = 0 then (1, 0, 0) else if i = 1 then (0, 1, 0) else (0, 0, 1)
def paramP (i : Int) : Pl := if 0 ≤ i ∧ i < 3 then monoP (paramE i) 1 else fun _ => 0
theorem paramE_deg (i : Int) : deg (paramE i) ≤ 5 := by unfold paramE; split <;> (try split) <;> decide
theorem fit_param (i : Int) : FitP 1 (paramP i) := by
  unfold paramP; split
  · exact fitP_mono _ fit1
  · exact fitP_zero (by decide)
theorem param_no {i : Int} (h : ¬ (0 ≤ i ∧ i < 3)) : lst (paramP i) = [] := by unfold paramP; rw [if_neg h]; exact lst_zero
theorem param_yes {i : Int} (h : 0 ≤ i ∧ i < 3) : lst (paramP i) = [(paramE i, 1)] := by unfold paramP; rw [if_pos h]; exact lst_mono (paramE_deg i) (by decide)
/-- One monomial in a new row. -/
theorem polC_one {w : World} {G : Nat} {i : Int} (hi : 0 ≤ i ∧ i < 3) {x y z : Int} {s : Bool} {xo : Option Addr} {xn xc : Nat} {yo : Option Addr} {yn yc : Nat} (he : (x, y, z) = exI (paramE i)) (hX : H6 G 0 x y z s xo xn xc yo yn yc w) (hr : RatC w (.agg #[.bool s, .slice xo xn xc, .slice yo yn yc]) 1) : (lst (paramP i)).length = 1 ∧ PolC w (some ⟨G, 0, none⟩) 1 (paramP i) := by
  unfold PolC
  rw [param_yes hi]
  refine ⟨rfl, ?_⟩
  refine ⟨rfl, Nat.le_refl _, by simp [maxLen], fun h => (by cases h), fun j m hm => ?_⟩
  rcases j with _ | j
  · simp only [List.map_cons, List.map_nil, List.getElem?_cons_zero, Option.some.injEq] at hm
    subst hm
    obtain ⟨⟨h0, h1, h2⟩, h3, h4, h5⟩ := hX
    simp only [Nat.zero_add] at h1 h2 h3 h4 h5
    exact ⟨G, 0, rfl, ((x, y, z), s, (xo, xn, xc), (yo, yn, yc)), Hex.of h0 h1 h2 h3 h4 h5, he, hr⟩
  · simp at hm
theorem H6.fresh' (w : World) (x y z : Int) (s : Bool) (xo : Option Addr) (xn xc : Nat) (yo : Option Addr) (yn yc : Nat) (t : TypeId) (G : Nat) (hG : w.heap.size = G) :
    H6 G 0 x y z s xo xn xc yo yn yc (w.alloc (.cells #[.int .i64 x, .int .i64 y, .int .i64 z, .bool s, .slice xo xn xc, .slice yo yn yc] t)) := by subst hG; exact H6.fresh w x y z s xo xn xc yo yn yc t

set_option maxHeartbeats 2000000 in
theorem pParam_any (i : Int) (w : World) : Calls Tryz.prog 34 #[.int .i64 i] w (PolOut w (paramP i)) := by
  by_cases hi : 0 ≤ i ∧ i < 3
  · rcases (by omega : i = 0 ∨ i = 1 ∨ i = 2) with rfl | rfl | rfl
    · go_enter Tryz.func34, Tryz.ntmps34
      go_wp2_with fail
      refine (int1_any _).mono ?_; rintro e w1 ⟨v1, rfl, C1, hb1⟩
      obtain ⟨rb, ro, rn, rc, so, sn, sc, rfl⟩ := C1.shape
      have hG := H6.fresh w1 0 0 0 rb ro rn rc so sn sc 59
      obtain ⟨⟨x0, x1, x2⟩, x3, x4, x5⟩ := hG
      simp only [Nat.zero_add] at x1 x2 x3 x4 x5
      have hfr : (w1.alloc (.cells #[.int .i64 0, .int .i64 0, .int .i64 0, .bool rb, .slice ro rn rc, .slice so sn sc] 59)).frozen? ⟨w1.heap.size, 0, none⟩ = false := by simp [go_sem]
      have hbA : Below w1.heap.size w1 (w1.alloc (.cells #[.int .i64 1, .int .i64 0, .int .i64 0, .bool rb, .slice ro rn rc, .slice so sn sc] 59)) := below_alloc _
      have hbN := below_alloc (w := w1.alloc (.cells #[.int .i64 1, .int .i64 0, .int .i64 0, .bool rb, .slice ro rn rc, .slice so sn sc] 59)) (.cells #[.int .i64 1, .int .i64 0, .int .i64 0, .bool rb, .slice ro rn rc, .slice so sn sc] 59)
      have hres := hid (polC_one (i := 0) (by decide) (x := 1) (y := 0) (z := 0) rfl (H6.fresh' _ 1 0 0 rb ro rn rc so sn sc 59 (w1.heap.size + 1) (by simp)) ((C1.next hbA).next hbN))
      have hbel := hid (below_chain (below_chain hb1 hbA) hbN)
      clear hbA hbN
      go_wp2_with fail
      go_ret
      exact ⟨some ⟨w1.heap.size + 1, 0, none⟩, 1, by rw [hres.out.1]; rfl, hres.out.2, hbel.out⟩
    · go_enter Tryz.func34, Tryz.ntmps34
      go_wp2_with fail
      refine (int1_any _).mono ?_; rintro e w1 ⟨v1, rfl, C1, hb1⟩
      obtain ⟨rb, ro, rn, rc, so, sn, sc, rfl⟩ := C1.shape
      have hG := H6.fresh w1 0 0 0 rb ro rn rc so sn sc 59
      obtain ⟨⟨x0, x1, x2⟩, x3, x4, x5⟩ := hG
      simp only [Nat.zero_add] at x1 x2 x3 x4 x5
      have hfr : (w1.alloc (.cells #[.int .i64 0, .int .i64 0, .int .i64 0, .bool rb, .slice ro rn rc, .slice so sn sc] 59)).frozen? ⟨w1.heap.size, 1, none⟩ = false := by simp [go_sem]
      have hbA : Below w1.heap.size w1 (w1.alloc (.cells #[.int .i64 0, .int .i64 1, .int .i64 0, .bool rb, .slice ro rn rc, .slice so sn sc] 59)) := below_alloc _
      have hbN := below_alloc (w := w1.alloc (.cells #[.int .i64 0, .int .i64 1, .int .i64 0, .bool rb, .slice ro rn rc, .slice so sn sc] 59)) (.cells #[.int .i64 0, .int .i64 1, .int .i64 0, .bool rb, .slice ro rn rc, .slice so sn sc] 59)
      have hres := hid (polC_one (i := 1) (by decide) (x := 0) (y := 1) (z := 0) rfl (H6.fresh' _ 0 1 0 rb ro rn rc so sn sc 59 (w1.heap.size + 1) (by simp)) ((C1.next hbA).next hbN))
      have hbel := hid (below_chain (below_chain hb1 hbA) hbN)
      clear hbA hbN
      go_wp2_with fail
      go_ret
      exact ⟨some ⟨w1.heap.size + 1, 0, none⟩, 1, by rw [hres.out.1]; rfl, hres.out.2, hbel.out⟩
    · go_enter Tryz.func34, Tryz.ntmps34
      go_wp2_with fail
      refine (int1_any _).mono ?_; rintro e w1 ⟨v1, rfl, C1, hb1⟩
      obtain ⟨rb, ro, rn, rc, so, sn, sc, rfl⟩ := C1.shape
      have hG := H6.fresh w1 0 0 0 rb ro rn rc so sn sc 59
      obtain ⟨⟨x0, x1, x2⟩, x3, x4, x5⟩ := hG
      simp only [Nat.zero_add] at x1 x2 x3 x4 x5
      have hfr : (w1.alloc (.cells #[.int .i64 0, .int .i64 0, .int .i64 0, .bool rb, .slice ro rn rc, .slice so sn sc] 59)).frozen? ⟨w1.heap.size, 2, none⟩ = false := by simp [go_sem]
      have hbA : Below w1.heap.size w1 (w1.alloc (.cells #[.int .i64 0, .int .i64 0, .int .i64 1, .bool rb, .slice ro rn rc, .slice so sn sc] 59)) := below_alloc _
      have hbN := below_alloc (w := w1.alloc (.cells #[.int .i64 0, .int .i64 0, .int .i64 1, .bool rb, .slice ro rn rc, .slice so sn sc] 59)) (.cells #[.int .i64 0, .int .i64 0, .int .i64 1, .bool rb, .slice ro rn rc, .slice so sn sc] 59)
      have hres := hid (polC_one (i := 2) (by decide) (x := 0) (y := 0) (z := 1) rfl (H6.fresh' _ 0 0 1 rb ro rn rc so sn sc 59 (w1.heap.size + 1) (by simp)) ((C1.next hbA).next hbN))
      have hbel := hid (below_chain (below_chain hb1 hbA) hbN)
      clear hbA hbN
      go_wp2_with fail
      go_ret
      exact ⟨some ⟨w1.heap.size + 1, 0, none⟩, 1, by rw [hres.out.1]; rfl, hres.out.2, hbel.out⟩
  · have hno := hid (param_no hi)
    have hnil : Hid (∀ W, PolC W none 0 (paramP i)) := hid (fun W => by unfold PolC; rw [hno.out]; exact Pol.nil _ _)
    by_cases h0 : i < 0
    · go_enter Tryz.func34, Tryz.ntmps34
      go_wp2_with fail
      go_ret
      exact ⟨none, 0, by rw [hno.out]; rfl, hnil.out _, Below.refl _ _⟩
    · have h3 : 3 ≤ i := by omega
      go_enter Tryz.func34, Tryz.ntmps34
      go_wp2_with fail
      go_ret
      exact ⟨none, 0, by rw [hno.out]; rfl, hnil.out _, Below.refl _ _⟩

/-! ### Lowest -/
theorem low_at {P : Pl} {e : Ex} {q : Rat} {i : Nat} (h : (lst P)[i]? = some (e, q)) (hd : e.1 + e.2.1 + e.2.2 = 0) : q = P (0, 0, 0) := by
  have h1 := lst_at (List.mem_of_getElem? h)
  have he : e = (0, 0, 0) := by
    obtain ⟨a, b, c⟩ := e
    simp only [Prod.mk.injEq]; simp only at hd; omega
  rw [← he]; exact h1.2.2
theorem low_no {P : Pl} (h : ∀ (i : Nat) (e : Ex) (q : Rat), (lst P)[i]? = some (e, q) → e.1 + e.2.1 + e.2.2 ≠ 0) : P (0, 0, 0) = 0 := by
  by_cases k : P (0, 0, 0) = 0
  · exact k
  · have hm : ((0, 0, 0), P (0, 0, 0)) ∈ lst P := List.mem_map.2 ⟨(0, 0, 0), mem_supp.2 ⟨by decide, k⟩, rfl⟩
    obtain ⟨i, hi⟩ := List.getElem?_of_mem hm
    exact absurd rfl (h i _ _ hi)

set_option maxHeartbeats 2000000 in
theorem pLowest_any (P : Pl) (v : Value) (w : World) (h : PolV w v P) (k : Nat) (hP : FitP k P) (hk : k ≤ 4294967296) : Calls Tryz.prog 24 #[v] w (RatOut w (P (0, 0, 0))) := by
  obtain ⟨_, _, _, _, rfl, _⟩ := id h
  have hr := Res.start (Below.refl w.heap.size w) false none 0 0 none 0 0 25
  have hval := hid (value_any P _ _ (h.next hr.bel))
  obtain ⟨n, hn⟩ : ∃ n, (lst P).length = n := ⟨_, rfl⟩
  have hnb : n ≤ 56 := by rw [← hn]; exact len_lst P
  have Hn := hid hn
  have hPk := hid hP
  clear h hn hP
  go_enter Tryz.func24, Tryz.ntmps24
  go_wp2_with fail
  refine hval.out.mono ?_; rintro e w1 ⟨ao, cap, rfl, hP1, hb1⟩
  rw [Hn.out]
  have hP1' : Pol RatC w1 ao n cap ((lst P).map toM) := by have := hP1; unfold PolC at this; rw [Hn.out] at this; exact this
  have hr1 := hr.next hb1
  clear hP1 hr
  go_wp2_with fail
  go_loopw [8] (fun iv wr => ∃ i : Nat, i ≤ n ∧ iv = .int .i64 i ∧ Res w w.heap.size false none 0 0 none 0 0 wr ∧ Pol RatC wr ao n cap ((lst P).map toM) ∧ Hid (∀ (j : Nat) (e : Ex) (q : Rat), j < i → (lst P)[j]? = some (e, q) → e.1 + e.2.1 + e.2.2 ≠ 0)) (fun i _ => n - (intOf i).toNat)
  case atStart => exact ⟨0, by omega, rfl, hr1, hP1', hid (fun j e q hj => by omega)⟩
  case round =>
    clear hP1' hr1
    obtain ⟨i, hi, rfl, hr, hpol, hno⟩ := hrel
    by_cases hlt : i < n
    · obtain ⟨b, o, m1, m2, m3, qm, s, xo, xn, xc, yo, yn, yc, hgm, rfl, hX, hrm⟩ := hpol.atM hlt
      obtain ⟨⟨x0, x1, x2⟩, x3, x4, x5⟩ := hX
      have hba : Below wr.heap.size wr (wr.alloc (.cells #[.int .i64 m1, .int .i64 m2, .int .i64 m3, .bool s, .slice xo xn xc, .slice yo yn yc] 59)) := below_alloc _
      have hG := H6.fresh wr m1 m2 m3 s xo xn xc yo yn yc 59
      have hG2 := hid hG
      obtain ⟨⟨y0, y1, y2⟩, y3, y4, y5⟩ := hG
      have hra := hr.next hba
      have hpa := hpol.nextC hba
      have hrma := hrm.next hba
      have hmem := lst_at (List.mem_of_getElem? hgm)
      have hsm : smE ((m1 : Int), (m2 : Int), (m3 : Int)) := by have := hmem.1; unfold deg at this; unfold smE; simp only at this ⊢; omega
      have hdeg := hid (fun W => degree_any m1 m2 m3 hsm W)
      have Hgm := hid hgm
      have hfm := hid (hPk.out.mem (List.mem_of_getElem? hgm))
      clear hr hpol hrm hgm hmem hsm
      go_wp2_with fail
      refine (hdeg.out _).mono ?_; rintro e w2 ⟨rfl, hb2⟩
      have hr2 := hra.next hb2
      have hp2 := hpa.nextC hb2
      have hrm2 := hrma.next hb2
      by_cases hd : m1 + m2 + m3 = 0
      · have c1 : ((m1 : Int) + m2 + m3 == 0) = true := by rw [beq_iff_eq]; omega
        have hq := hid (low_at Hgm.out hd)
        obtain ⟨⟨z0, z1, z2⟩, z3, z4, z5⟩ := hG2.out.next hb2
        have hrmV := hrm2.toV hfm.out (by omega)
        have hz := (ratC_zero w2).toV (fit_zero hfm.out.pos) (k := k) (by omega)
        clear hra hpa hrma hp2 x0 x1 x2 x3 x4 x5 y0 y1 y2 y3 y4 y5
        go_wp2_with fail
        refine (Add_any qm 0 _ _ _ hrmV hz k hfm.out (fit_zero hfm.out.pos) hk).mono ?_; rintro e w3 ⟨v3, rfl, C3', hb3⟩
        obtain ⟨rb, ro, rn, rc, so, sn, sc, rfl⟩ := C3'.shape
        have hr3 := hr2.next hb3
        obtain ⟨d0, d1, d2, g0, g1, g2, _, _, _, _⟩ := hr2.next hb3
        go_wp2_with fail
        refine bodyPost_ret (v := .agg #[.bool rb, .slice ro rn rc, .slice so sn sc]) (by simp [results, Tryz.results24, go_sem, d0, d1, d2]) rfl ?_
        have hqq : qm + 0 = P (0, 0, 0) := by rw [Rat.add_zero]; exact hq.out
        rw [hqq] at C3'
        exact hr3.rc C3'
      · have c1 : ((m1 : Int) + m2 + m3 == 0) = false := by rw [beq_eq_false_iff_ne]; omega
        have hno2 : Hid (∀ (j : Nat) (e : Ex) (q : Rat), j < i + 1 → (lst P)[j]? = some (e, q) → e.1 + e.2.1 + e.2.2 ≠ 0) := hid (fun j e q hj hg => by
          rcases Nat.lt_succ_iff_lt_or_eq.1 hj with h1 | h1
          · exact hno.out j e q h1 hg
          · subst h1
            rw [Hgm.out] at hg
            injection hg with hg
            injection hg with h1 h2
            rw [← h1]; exact hd)
        clear hra hpa hrma hrm2 x0 x1 x2 x3 x4 x5 y0 y1 y2 y3 y4 y5
        go_wp2_with fail
        go_roundw
        case rel => exact ⟨i + 1, by omega, by go_num, hr2, hp2, hno2⟩
        case measure => simp [intOf]; omega
    · obtain rfl : i = n := by omega
      have hq : Hid (P (0, 0, 0) = 0) := hid (low_no fun j e q hg => hno.out j e q (by rw [← Hn.out]; exact (List.getElem?_eq_some_iff.1 hg).1) hg)
      have hr3 := hid hr
      obtain ⟨d0, d1, d2, g0, g1, g2, _, _, _, _⟩ := hr
      clear hpol
      go_wp2_with fail
      refine bodyPost_ret (v := .agg #[.bool false, .slice none 0 0, .slice none 0 0]) (by simp [results, Tryz.results24, go_sem, d0, d1, d2]) rfl ?_
      rw [hq.out]
      exact hr3.out.rc (ratC_zero _)
end Go.Proofs.YtgohfieleckmgaaGreatDoor
