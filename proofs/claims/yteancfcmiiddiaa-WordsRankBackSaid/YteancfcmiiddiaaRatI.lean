/-
  The contract of rational.Div. No condition but sizes.
-/
import Derived.Test.YteancfcmiiddiaaRatH
namespace Go.Proofs.Yteancfcmiiddiaa
open Go.RowKit
set_option linter.unusedSimpArgs false
set_option linter.unusedVariables false

def divErr (r : Rat) : Int := if r = 0 then 11 else 0

theorem rat_parts (q : Rat) : (q.num : Rat) / (q.den : Rat) = q := by rw [← Rat.mkRat_eq_div, Rat.mkRat_self]
theorem rat_den_ne (q : Rat) : (q.den : Rat) ≠ 0 := by
  intro h
  have : ((q.den : Int) : Rat) = ((0 : Int) : Rat) := h
  have := Rat.intCast_inj.1 this
  exact q.den_nz (by omega)
theorem frac_div (a b c d : Rat) (hb : b ≠ 0) (hd : d ≠ 0) : (a * d) / (b * c) = (a / b) / (c / d) := by
  by_cases hc : c = 0
  · subst hc; grind
  · grind

theorem div_core (q r : Rat) : mkRat (sgn (decide (q.num < 0) != decide (r.num < 0)) (q.num.natAbs * r.den)) (q.den * r.num.natAbs) = q / r := by
  have h := mk_sign (q.num * r.den) (q.den * r.num)
  have hq : 0 < (q.den : Int) := by have := q.den_nz; omega
  have hr : 0 < (r.den : Int) := by have := r.den_nz; omega
  have e1 : decide (q.num * (r.den : Int) < 0) = decide (q.num < 0) := by
    rw [decide_eq_decide]
    constructor
    · intro h; by_cases hc : 0 ≤ q.num
      · have := Int.mul_nonneg hc (Int.le_of_lt hr); omega
      · omega
    · intro h; exact Int.mul_neg_of_neg_of_pos h hr
  have e2 : decide ((q.den : Int) * r.num < 0) = decide (r.num < 0) := by
    rw [decide_eq_decide]
    constructor
    · intro h; by_cases hc : 0 ≤ r.num
      · have := Int.mul_nonneg (Int.le_of_lt hq) hc; omega
      · omega
    · intro h; exact Int.mul_neg_of_pos_of_neg hq h
  rw [e1, e2, Int.natAbs_mul, Int.natAbs_mul, Int.natAbs_natCast, Int.natAbs_natCast] at h
  rw [h, Rat.intCast_mul, Rat.intCast_mul]
  have := frac_div q.num q.den r.num r.den (rat_den_ne q) (rat_den_ne r)
  rw [rat_parts, rat_parts] at this
  exact this

set_option maxHeartbeats 8000000 in
theorem Div_any (q r : Rat) (v v2 : Value) (w : World) (h : RatV w v q) (h' : RatV w v2 r) (k : Nat) (hq : Fit k q) (hr' : Fit k r) (hk : k ≤ 4294967296) :
    Calls Try.prog 135 #[v, v2] w (RatOut2 w (q / r) (divErr r)) := by
  obtain ⟨s, ao, n, cap, bo, m, cap', rfl⟩ := h.shape
  obtain ⟨t, co, n2, cap2, eo, m2, cap3, rfl⟩ := h'.shape
  have hr := Res.start (((Below.refl w.heap.size w).alloc (Nat.le_refl _) (.cells #[.bool s, .slice ao n cap, .slice bo m cap'] 54)).alloc (by simp) (.cells #[.bool t, .slice co n2 cap2, .slice eo m2 cap3] 54)) false none 0 0 none 0 0 54
  have h0 : C3 w.heap.size (.bool s) (.slice ao n cap) (.slice bo m cap') (((w.alloc (.cells #[.bool s, .slice ao n cap, .slice bo m cap'] 54)).alloc (.cells #[.bool t, .slice co n2 cap2, .slice eo m2 cap3] 54)).alloc (.cells #[.bool false, .slice none 0 0, .slice none 0 0] 54)) := ⟨by simp [go_sem], by simp [go_sem], by simp [go_sem]⟩
  have h0' : C3 (w.heap.size + 1) (.bool t) (.slice co n2 cap2) (.slice eo m2 cap3) (((w.alloc (.cells #[.bool s, .slice ao n cap, .slice bo m cap'] 54)).alloc (.cells #[.bool t, .slice co n2 cap2, .slice eo m2 cap3] 54)).alloc (.cells #[.bool false, .slice none 0 0, .slice none 0 0] 54)) := ⟨by simp [go_sem], by simp [go_sem], by simp [go_sem]⟩
  simp only [World.size_alloc] at hr
  go_enter Try.func135, Try.ntmps135
  go_upto_region 1 with fail
  go_cut [6, 7] (fun s5 s6 wx => TwoFr w (w.heap.size + 1 + 1) (decide (q.num < 0)) q.num.natAbs q.den (decide (r.num < 0)) r.num.natAbs r.den s5 s6 wx)
  case first =>
    generalize ((w.alloc (.cells #[.bool s, .slice ao n cap, .slice bo m cap'] 54)).alloc (.cells #[.bool t, .slice co n2 cap2, .slice eo m2 cap3] 54)).alloc (.cells #[.bool false, .slice none 0 0, .slice none 0 0] 54) = W at *
    have hz := hr.hz
    have lt0 : w.heap.size + 1 + 1 < W.heap.size := by omega
    have hS0 : C3 w.heap.size (.bool s) (.slice ao n cap) (.slice bo m cap') W.drew ∧ C3 (w.heap.size + 1) (.bool t) (.slice co n2 cap2) (.slice eo m2 cap3) W.drew ∧ Below w.heap.size w W.drew ∧ w.heap.size + 1 + 1 < W.drew.heap.size := ⟨h0.next (Below.refl _ W).drew, h0'.next (Below.refl _ W).drew, hr.bel.drew, lt0⟩
    have hSW : C3 w.heap.size (.bool s) (.slice ao n cap) (.slice bo m cap') W ∧ C3 (w.heap.size + 1) (.bool t) (.slice co n2 cap2) (.slice eo m2 cap3) W ∧ Below w.heap.size w W ∧ w.heap.size + 1 + 1 < W.heap.size := ⟨h0, h0', hr.bel, lt0⟩
    have hK : ∀ w' w'', (C3 w.heap.size (.bool s) (.slice ao n cap) (.slice bo m cap') w' ∧ C3 (w.heap.size + 1) (.bool t) (.slice co n2 cap2) (.slice eo m2 cap3) w' ∧ Below w.heap.size w w' ∧ w.heap.size + 1 + 1 < w'.heap.size) → Below w'.heap.size w' w'' → (C3 w.heap.size (.bool s) (.slice ao n cap) (.slice bo m cap') w'' ∧ C3 (w.heap.size + 1) (.bool t) (.slice co n2 cap2) (.slice eo m2 cap3) w'' ∧ Below w.heap.size w w'' ∧ w.heap.size + 1 + 1 < w''.heap.size) := fun w' w'' h hb => ⟨h.1.next hb, h.2.1.next hb, below_chain h.2.2.1 hb, Nat.lt_of_lt_of_le h.2.2.2 hb.size⟩
    have hSt : ∀ w' G (x y z : Value), w.heap.size + 1 + 1 < G → (C3 w.heap.size (.bool s) (.slice ao n cap) (.slice bo m cap') w' ∧ C3 (w.heap.size + 1) (.bool t) (.slice co n2 cap2) (.slice eo m2 cap3) w' ∧ Below w.heap.size w w' ∧ w.heap.size + 1 + 1 < w'.heap.size) →
        (C3 w.heap.size (.bool s) (.slice ao n cap) (.slice bo m cap') (((w'.setCell ⟨G, 0, none⟩ x).setCell ⟨G, 1, none⟩ y).setCell ⟨G, 2, none⟩ z) ∧ C3 (w.heap.size + 1) (.bool t) (.slice co n2 cap2) (.slice eo m2 cap3) (((w'.setCell ⟨G, 0, none⟩ x).setCell ⟨G, 1, none⟩ y).setCell ⟨G, 2, none⟩ z) ∧ Below w.heap.size w (((w'.setCell ⟨G, 0, none⟩ x).setCell ⟨G, 1, none⟩ y).setCell ⟨G, 2, none⟩ z) ∧ w.heap.size + 1 + 1 < (((w'.setCell ⟨G, 0, none⟩ x).setCell ⟨G, 1, none⟩ y).setCell ⟨G, 2, none⟩ z).heap.size) :=
      fun w' G x y z hG h => ⟨h.1.set3 (by omega) _ _ _, h.2.1.set3 (by omega) _ _ _, below_set3 h.2.2.1 (by omega) _ _ _, by rw [size_set3]; exact h.2.2.2⟩
    go_region_held3 (fun w' => C3 w.heap.size (.bool s) (.slice ao n cap) (.slice bo m cap') w' ∧ C3 (w.heap.size + 1) (.bool t) (.slice co n2 cap2) (.slice eo m2 cap3) w' ∧ Below w.heap.size w w' ∧ w.heap.size + 1 + 1 < w'.heap.size)
      (repeat (first | with_reducible refine hSt _ _ _ _ _ (by with_reducible first | exact lt0 | exact Nat.lt_succ_of_lt lt0 | exact lt1 | exact Nat.lt_succ_of_lt lt1 | exact lt2 | exact Nat.lt_succ_of_lt lt2) ?_ | with_reducible assumption | with_reducible refine hK _ _ ?_ (below_alloc _) | with_reducible refine hK _ _ ?_ hb1 | with_reducible refine hK _ _ ?_ hb2 | with_reducible refine hK _ _ ?_ (Below.refl _ _).drew))
      (first
        | (go_at_call_of 125 (Value.agg #[Value.bool s, Value.slice ao n cap, Value.slice bo m cap']); refine (of_any q _ _ (h.next (show Below w.heap.size w _ from And.left (And.right (And.right (by assumption)))))).mono ?_; rintro e w1 ⟨f1, rfl, F1, hb1⟩; have lt1 := (hK _ w1 (by assumption) hb1).2.2.2; obtain ⟨hc1, hf1⟩ := bcell hb1; have hz1 := hb1.size; (try simp at hz1); (try have hu1 := Nat.lt_of_succ_le hz1); (try have hy1 := Nat.lt_of_succ_lt hu1); obtain ⟨xo, xn, xc, yo, yn, yc, rfl⟩ := F1.shape)
        | (go_at_call_of 125 (Value.agg #[Value.bool t, Value.slice co n2 cap2, Value.slice eo m2 cap3]); refine (of_any r _ _ (h'.next (show Below w.heap.size w _ from And.left (And.right (And.right (by assumption)))))).mono ?_; rintro e w2 ⟨f2, rfl, F2, hb2⟩; have lt2 := (hK _ w2 (by assumption) hb2).2.2.2; obtain ⟨hc2, hf2⟩ := bcell hb2; have hz2 := hb2.size; (try simp at hz2); (try have hu2 := Nat.lt_of_succ_le hz2); (try have hy2 := Nat.lt_of_succ_lt hu2); (try have hx2 := Nat.lt_of_lt_of_le hu1 (Nat.le_trans (by simp) hb2.size)); (try have hw2 := Nat.lt_of_lt_of_le hy1 (Nat.le_trans (by simp) hb2.size)); obtain ⟨zo, zn, zc, uo, un, uc, rfl⟩ := F2.shape))
    all_goals
      go_wp2_with fail
      go_meet
      have hlt : ∀ x : Nat, w.heap.size + 1 + 1 < x → w.heap.size ≤ x := fun x h => by omega
      have sol : ∀ (X : World) (G : Nat), G = X.heap.size → Below w.heap.size w X → Res w G false none 0 0 none 0 0 (X.alloc (.cells #[.bool false, .slice none 0 0, .slice none 0 0] 122)) := fun X G e h => Res.startAt h e _ _ _ _ _ _ _ _
      refine ⟨_, _, xo, xn, xc, yo, yn, yc, zo, zn, zc, uo, un, uc, rfl, rfl, ?_, ?_, ?_, ?_, ?_, ?_, ?_⟩
      all_goals (repeat' (first | with_reducible exact F1 | with_reducible exact F2 | with_reducible exact hr | with_reducible exact hr.bel | with_reducible refine FrV.set3 (w := w) (b0 := false) (a1 := none) (n1 := 0) (k1 := 0) (a2 := none) (n2 := 0) (k2 := 0) ?_ ?_ _ _ _ | with_reducible refine FrV.new ?_ _ | with_reducible refine C3.stored (w := w) (b0 := false) (a1 := none) (n1 := 0) (k1 := 0) (a2 := none) (n2 := 0) (k2 := 0) ?_ _ _ _ | with_reducible refine C3.set3 ?_ ?_ _ _ _ | (with_reducible refine C3.here _ _ ?_; · simp) | with_reducible refine C3.new ?_ _ | with_reducible refine Res.other ?_ ?_ (hlt _ ?_) _ _ _ | (with_reducible refine sol _ _ ?_ ?_; · (with_reducible rfl)) | (with_reducible refine sol _ _ ?_ ?_; · simp) | with_reducible refine Res.new ?_ _ | with_reducible refine Res.drew ?_ | with_reducible exact hr.bel.drew | with_reducible refine below_new ?_ _ | with_reducible refine Below.drew ?_ | with_reducible refine FrV.next ?_ hb2 | with_reducible refine Res.next ?_ hb2 | with_reducible refine Res.next ?_ hb1 | with_reducible refine below_chain ?_ hb2 | with_reducible refine below_chain ?_ hb1 | with_reducible exact lt0 | with_reducible exact Nat.lt_succ_of_lt lt0 | with_reducible exact lt1 | with_reducible exact Nat.lt_succ_of_lt lt1 | with_reducible exact lt2 | with_reducible exact Nat.lt_succ_of_lt lt2 | omega))
  case rest =>
    clear hr h0 h0' h h'
    obtain ⟨g, hh, xo, xn, xc, yo, yn, yc, zo, zn, zc, uo, un, uc, rfl, rfl, K1, K2, F1, F2, hrc, hg1, hg2⟩ := hcut
    obtain ⟨sX, sY, zX, zY, nY⟩ := F1.parts
    obtain ⟨sZ, sU, zZ, zU, nU⟩ := F2.parts
    have hd := (Below.refl wc.heap.size wc).drew
    have hxn : xn ≤ 4294967296 := by rw [← sX.lenU]; exact Nat.le_trans hq.1 hk
    have hyn : yn ≤ 4294967296 := by rw [← sY.lenU]; exact Nat.le_trans hq.2 hk
    have hzn : zn ≤ 4294967296 := by rw [← sZ.lenU]; exact Nat.le_trans hr'.1 hk
    have hun : un ≤ 4294967296 := by rw [← sU.lenU]; exact Nat.le_trans hr'.2 hk
    have hz0 := sZ.lenU
    obtain ⟨k10, k11, k12⟩ := K1
    obtain ⟨k20, k21, k22⟩ := K2
    by_cases hr0 : r = 0
    · subst hr0
      have e1 : Hid (divErr 0 = 11) := hid (if_pos rfl)
      have e2 : Hid (q / 0 = 0) := hid (by grind)
      rw [show (0 : Rat).num.natAbs = 0 from rfl, dig_zero] at hz0
      obtain rfl : zn = 0 := by simpa using hz0.symm
      have hrc2 := hrc
      obtain ⟨d0, d1, d2, g0, g1, g2, _, _, _, _⟩ := hrc2
      clear hz0
      go_wp2_with fail
      refine bodyPost_ret (v := .tuple #[.agg #[.bool false, .slice none 0 0, .slice none 0 0], .int .i64 11]) (by simp [results, Try.results135, go_sem, d0, d1, d2]) rfl ?_
      rw [e1.out, e2.out]
      exact (hrc.rc (ratC_zero _)).two 11
    · have hrn : r.num.natAbs ≠ 0 := fun h => hr0 (Rat.num_eq_zero.1 (Int.natAbs_eq_zero.1 h))
      have e1 : Hid (divErr r = 0) := hid (if_neg hr0)
      have hzn0 : 1 ≤ zn := by
        cases zn with
        | zero => exact absurd (List.eq_nil_of_length_eq_zero hz0) (fun h => hrn (dig_nil.1 h))
        | succ n => omega
      clear hz0
      have hA' : lim (q.num.natAbs * r.den) ≤ 17179869184 := Nat.le_trans (lim_mul _ _) (Nat.le_trans (Nat.add_le_add hq.1 hr'.2) (by omega))
      have hB' : lim (q.den * r.num.natAbs) ≤ 17179869184 := Nat.le_trans (lim_mul _ _) (Nat.le_trans (Nat.add_le_add hq.2 hr'.1) (by omega))
      have hn0 : q.den * r.num.natAbs ≠ 0 := Nat.mul_ne_zero nY hrn
      have hrat : Hid (mkRat (sgn (decide (q.num < 0) != decide (r.num < 0)) (q.num.natAbs * r.den)) (q.den * r.num.natAbs) = q / r) := hid (div_core q r)
      have t1 := fun w' (h : Below wc.heap.size wc w') => timesD q.num.natAbs r.den (sX.next h) (sU.next h) (by omega) (by omega)
      have t2 := fun w' (h : Below wc.heap.size wc w') => timesD q.den r.num.natAbs (sY.next h) (sZ.next h) (by omega) (by omega)
      generalize q.num.natAbs * r.den = A at *
      generalize q.den * r.num.natAbs = B at *
      generalize decide (q.num < 0) = s1 at *
      generalize decide (r.num < 0) = s2 at *
      have K1 : C3 g (.bool s1) (.slice xo xn xc) (.slice yo yn yc) wc := ⟨k10, k11, k12⟩
      have K2 : C3 hh (.bool s2) (.slice zo zn zc) (.slice uo un uc) wc := ⟨k20, k21, k22⟩
      have T1 := hid t1; have T2 := hid t2
      clear t1 t2 sX sY sZ sU F1 F2 k10 k11 k12 k20 k21 k22 hr0
      have hK : ∀ w' w'', (C3 g (.bool s1) (.slice xo xn xc) (.slice yo yn yc) w' ∧ C3 hh (.bool s2) (.slice zo zn zc) (.slice uo un uc) w') → Below w'.heap.size w' w'' → (C3 g (.bool s1) (.slice xo xn xc) (.slice yo yn yc) w'' ∧ C3 hh (.bool s2) (.slice zo zn zc) (.slice uo un uc) w'') := fun w' w'' h hb => ⟨h.1.next hb, h.2.next hb⟩
      have hSt : ∀ w' (x y z : Value), (C3 g (.bool s1) (.slice xo xn xc) (.slice yo yn yc) w' ∧ C3 hh (.bool s2) (.slice zo zn zc) (.slice uo un uc) w') → (C3 g (.bool s1) (.slice xo xn xc) (.slice yo yn yc) (((w'.setCell ⟨w.heap.size + 1 + 1, 0, none⟩ x).setCell ⟨w.heap.size + 1 + 1, 1, none⟩ y).setCell ⟨w.heap.size + 1 + 1, 2, none⟩ z) ∧ C3 hh (.bool s2) (.slice zo zn zc) (.slice uo un uc) (((w'.setCell ⟨w.heap.size + 1 + 1, 0, none⟩ x).setCell ⟨w.heap.size + 1 + 1, 1, none⟩ y).setCell ⟨w.heap.size + 1 + 1, 2, none⟩ z)) :=
        fun w' x y z h => ⟨h.1.set3 (by omega) _ _ _, h.2.set3 (by omega) _ _ _⟩
      have hS0 : C3 g (.bool s1) (.slice xo xn xc) (.slice yo yn yc) wc.drew ∧ C3 hh (.bool s2) (.slice zo zn zc) (.slice uo un uc) wc.drew := ⟨K1.next hd, K2.next hd⟩
      go_wp2_with fail
      go_region_held3 (fun w' => C3 g (.bool s1) (.slice xo xn xc) (.slice yo yn yc) w' ∧ C3 hh (.bool s2) (.slice zo zn zc) (.slice uo un uc) w')
        (repeat (first | with_reducible assumption | with_reducible exact hSt _ _ _ _ (by assumption) | with_reducible refine hK _ _ ?_ hb3 | with_reducible refine hK _ _ ?_ hb4 | with_reducible refine hK _ _ ?_ hb5))
        (first
          | (go_at_call_of 128 (Value.slice xo xn xc); refine (T1.out _ hd).mono ?_; rintro e w3 ⟨po, pn, pc, rfl, sP, hzp, hb3, _⟩)
          | (go_at_call_of 128 (Value.slice yo yn yc); refine (T2.out _ (hd.trans (hb3.mono (Nat.le_refl _)))).mono ?_; rintro e w4 ⟨qo, qn, qc, rfl, sQ, hzq, hb4, _⟩)
          | (go_at_call 127; refine (rat_any _ A B _ _ ⟨po, qo, pn, pc, qn, qc, rfl, sP.next hb4, sQ, hzp, hzq, hn0⟩ hA' hB').mono ?_; rintro e w5 ⟨v5, rfl, C5, hb5⟩; obtain ⟨rb, ro, rn, rc, so, sn, sc, rfl⟩ := C5.shape; have hr5 := ((hrc.drew.next hb3).next hb4).next hb5; obtain ⟨d0, d1, d2, g0, g1, g2, _, _, _, _⟩ := hr5))
      go_wp2_with fail
      refine bodyPost_ret (v := .tuple #[.agg #[.bool rb, .slice ro rn rc, .slice so sn sc], .int .i64 0]) (by simp [results, Try.results135, go_sem, d0, d1, d2]) rfl ?_
      have := (((hrc.drew.next hb3).next hb4).next hb5).rc C5
      rw [show (!(s1 == s2)) = (s1 != s2) from rfl, hrat.out] at this
      rw [e1.out]
      exact this.two 0


end Go.Proofs.Yteancfcmiiddiaa
