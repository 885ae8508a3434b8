/-
  The contract of fraction.plus and negative. Conditions: the denominators are not 0; sizes.
-/
import Derived.Test.YteancfcmiiddiaaRatC
namespace Go.Proofs.Yteancfcmiiddiaa
open Go.RowKit
set_option linter.unusedSimpArgs false
set_option linter.unusedVariables false

/-- The three cells of a result in block G. -/
structure Res (w : World) (G : Nat) (b0 : Bool) (a1 : Option Addr) (n1 k1 : Nat) (a2 : Option Addr) (n2 k2 : Nat) (w' : World) : Prop where
  d0 : w'.cell? ⟨G, 0, none⟩ = some (.bool b0)
  d1 : w'.cell? ⟨G, 1, none⟩ = some (.slice a1 n1 k1)
  d2 : w'.cell? ⟨G, 2, none⟩ = some (.slice a2 n2 k2)
  g0 : w'.frozen? ⟨G, 0, none⟩ = false
  g1 : w'.frozen? ⟨G, 1, none⟩ = false
  g2 : w'.frozen? ⟨G, 2, none⟩ = false
  hz : G < w'.heap.size
  hG : w.heap.size ≤ G
  bel : Below w.heap.size w w'
  far : ∀ i v, w'.cell? ⟨G, i, none⟩ = some v → v = .bool b0 ∨ v = .slice a1 n1 k1 ∨ v = .slice a2 n2 k2

theorem Res.start {w W : World} (hb : Below w.heap.size w W) (b0 : Bool) (a1 : Option Addr) (n1 k1 : Nat) (a2 : Option Addr) (n2 k2 : Nat) (T : TypeId) : Res w W.heap.size b0 a1 n1 k1 a2 n2 k2 (W.alloc (.cells #[.bool b0, .slice a1 n1 k1, .slice a2 n2 k2] T)) := by
  refine ⟨?_, ?_, ?_, ?_, ?_, ?_, by simp, hb.size, hb.alloc hb.size _, ?_⟩
  case refine_7 =>
    intro i v hv
    rw [World.cell?_alloc_at _ _ _ _ rfl] at hv
    match i, hv with
    | 0, hv => exact .inl (by simpa using hv.symm)
    | 1, hv => exact .inr (.inl (by simpa using hv.symm))
    | 2, hv => exact .inr (.inr (by simpa using hv.symm))
    | i + 3, hv => simp at hv
  all_goals simp [go_sem]

section
variable {w : World} {G : Nat} {b0 : Bool} {a1 a2 : Option Addr} {n1 n2 k1 k2 : Nat} {w' w'' : World}
theorem Res.next (h : Res w G b0 a1 n1 k1 a2 n2 k2 w') (hb : Below w'.heap.size w' w'') : Res w G b0 a1 n1 k1 a2 n2 k2 w'' := by
  have hz := h.hz
  have hs := hb.size
  exact ⟨cell_later hb h.d0, cell_later hb h.d1, cell_later hb h.d2, (hb.frozen (p := ⟨G, 0, none⟩) hz).trans h.g0, (hb.frozen (p := ⟨G, 1, none⟩) hz).trans h.g1,
    (hb.frozen (p := ⟨G, 2, none⟩) hz).trans h.g2, by omega, h.hG, below_chain h.bel hb, fun i v hv => h.far i v (by rw [← hb.cell (p := ⟨G, i, none⟩) hz]; exact hv)⟩

theorem Res.off (h : Res w G b0 a1 n1 k1 a2 n2 k2 w') {ao : Option Addr} {n cap : Nat} {l : List Nat} (s : Sl w' ao n cap (u32s l)) : Off G ao n := by
  rintro a rfl hn e
  have hl := s.lenU
  obtain ⟨x, _, b, off, e2, hc⟩ := s.u32 (show 0 < n by omega)
  obtain rfl := Option.some.inj e2
  simp only at e
  subst e
  rcases h.far _ _ hc with h1 | h1 | h1 <;> cases h1

/-- A fraction comes back. -/
def FrOut (w : World) (neg : Bool) (a b : Nat) (e : Ending) (w' : World) : Prop := ∃ v, e = .returned v ∧ FrV w' v neg a b ∧ Below w.heap.size w w'

theorem Res.fr (h : Res w G b0 a1 n1 k1 a2 n2 k2 w') {neg : Bool} {a b : Nat} {ao bo : Option Addr} {n cap m cap' : Nat} (s1 : Sl w' ao n cap (u32s (dig a))) (s2 : Sl w' bo m cap' (u32s (dig b))) (hz : ao = none → cap = 0) (hz' : bo = none → cap' = 0) (hb : b ≠ 0) :
    FrOut w neg a b (.returned (.agg #[.bool neg, .slice ao n cap, .slice bo m cap'])) (((w'.setCell ⟨G, 0, none⟩ (.bool neg)).setCell ⟨G, 1, none⟩ (.slice ao n cap)).setCell ⟨G, 2, none⟩ (.slice bo m cap')) :=
  ⟨_, rfl, ⟨ao, bo, n, cap, m, cap', rfl, s1.set3 (h.off s1) _ _ _, s2.set3 (h.off s2) _ _ _, hz, hz', hb⟩, below_set3 h.bel h.hG _ _ _⟩
end

/-- A boxed argument of three cells. -/
structure Box (B : Nat) (x y z : Value) (w' : World) : Prop where
  c0 : w'.cell? ⟨B, 0, none⟩ = some x
  c1 : w'.cell? ⟨B, 1, none⟩ = some y
  c2 : w'.cell? ⟨B, 2, none⟩ = some z

theorem Box.start (W : World) (x y z : Value) (T : TypeId) : Box W.heap.size x y z (W.alloc (.cells #[x, y, z] T)) := ⟨by simp [go_sem], by simp [go_sem], by simp [go_sem]⟩
theorem Box.next {B : Nat} {x y z : Value} {w' w'' : World} (h : Box B x y z w') (hb : Below w'.heap.size w' w'') : Box B x y z w'' := ⟨cell_later hb h.c0, cell_later hb h.c1, cell_later hb h.c2⟩

set_option maxHeartbeats 1000000 in
theorem negative_any (neg : Bool) (a b : Nat) (v : Value) (w : World) (h : FrV w v neg a b) :
    Calls Try.prog 151 #[v] w (FrOut w (!neg) a b) := by
  obtain ⟨ao, bo, n, cap, m, cap', rfl, sN, sD, hza, hzb, hb0⟩ := h
  go_enter Try.func151, Try.ntmps151
  go_wp2_with fail
  refine bodyPost_ret (v := .agg #[.bool !neg, .slice ao n cap, .slice bo m cap']) (by simp [results, Try.results151, go_sem]) rfl ?_
  have hb := ((Below.refl w.heap.size w).alloc (Nat.le_refl _) (.cells #[.bool neg, .slice ao n cap, .slice bo m cap'] 122)).alloc (by simp) (.cells #[.bool !neg, .slice ao n cap, .slice bo m cap'] 122)
  exact ⟨_, rfl, ⟨ao, bo, n, cap, m, cap', rfl, sN.next hb, sD.next hb, hza, hzb, hb0⟩, hb⟩

/-- The sum of two fractions. -/
def SumOut (w : World) (s : Bool) (a b : Nat) (t : Bool) (c d : Nat) (e : Ending) (w' : World) : Prop :=
  ∃ u A, FrOut w u A (b * d) e w' ∧ sgn u A = sgn s a * d + sgn t c * b ∧ A ≤ a * d + c * b

set_option maxHeartbeats 4000000 in
theorem fplus_any (s : Bool) (a b : Nat) (t : Bool) (c d : Nat) (v v2 : Value) (w : World) (h : FrV w v s a b) (h' : FrV w v2 t c d) (ha : lim a ≤ 8589934592) (hb : lim b ≤ 8589934592) (hc : lim c ≤ 8589934592) (hd : lim d ≤ 8589934592) :
    Calls Try.prog 126 #[v, v2] w (SumOut w s a b t c d) := by
  obtain ⟨ao, bo, n, cap, m, cap', rfl, sA, sB, hza, hzb, hb0⟩ := h
  obtain ⟨co, eo, n2, cap2, m2, cap3, rfl, sC, sD, hzc, hzd, hd0⟩ := h'
  have hn : n ≤ 8589934592 := by rw [← sA.lenU]; exact ha
  have hm : m ≤ 8589934592 := by rw [← sB.lenU]; exact hb
  have hn2 : n2 ≤ 8589934592 := by rw [← sC.lenU]; exact hc
  have hm2 : m2 ≤ 8589934592 := by rw [← sD.lenU]; exact hd
  have hlx : lim (a * d) ≤ 17179869184 := Nat.le_trans (lim_mul _ _) (by omega)
  have hly : lim (c * b) ≤ 17179869184 := Nat.le_trans (lim_mul _ _) (by omega)
  obtain ⟨X, hX⟩ : ∃ X, a * d = X := ⟨_, rfl⟩
  obtain ⟨Y, hY⟩ : ∃ Y, c * b = Y := ⟨_, rfl⟩
  obtain ⟨Z, hZ⟩ : ∃ Z, b * d = Z := ⟨_, rfl⟩
  have hZ0 : Z ≠ 0 := by rw [← hZ]; exact Nat.mul_ne_zero hb0 hd0
  rw [hX] at hlx; rw [hY] at hly
  have hsX : Hid (sgn s a * d = sgn s X) := hid (by rw [← hX]; cases s <;> simp [sgn, Int.neg_mul])
  have hsY : Hid (sgn t c * b = sgn t Y) := hid (by rw [← hY]; cases t <;> simp [sgn, Int.neg_mul])
  have HX := hid hX; have HY := hid hY; have HZ := hid hZ
  clear hX hY hZ
  have tX := fun (w' : World) (h : Below w.heap.size w w') => (by have := timesD a d (sA.next h) (sD.next h) (by omega) (by omega); rwa [HX.out] at this : Calls Try.prog 128 #[.slice ao n cap, .slice eo m2 cap3] w' (NumOut w' X))
  have tY := fun (w' : World) (h : Below w.heap.size w w') => (by have := timesD c b (sC.next h) (sB.next h) (by omega) (by omega); rwa [HY.out] at this : Calls Try.prog 128 #[.slice co n2 cap2, .slice bo m cap'] w' (NumOut w' Y))
  have tZ := fun (w' : World) (h : Below w.heap.size w w') => (by have := timesD b d (sB.next h) (sD.next h) (by omega) (by omega); rwa [HZ.out] at this : Calls Try.prog 128 #[.slice bo m cap', .slice eo m2 cap3] w' (NumOut w' Z))
  have TX := hid tX; have TY := hid tY; have TZ := hid tZ
  clear tX tY tZ
  have hr := Res.start (((Below.refl w.heap.size w).alloc (Nat.le_refl _) (.cells #[.bool s, .slice ao n cap, .slice bo m cap'] 122)).alloc (by simp) (.cells #[.bool t, .slice co n2 cap2, .slice eo m2 cap3] 122)) false none 0 0 none 0 0 122
  have hx1 : Box w.heap.size (.bool s) (.slice ao n cap) (.slice bo m cap') (((w.alloc (.cells #[.bool s, .slice ao n cap, .slice bo m cap'] 122)).alloc (.cells #[.bool t, .slice co n2 cap2, .slice eo m2 cap3] 122)).alloc (.cells #[.bool false, .slice none 0 0, .slice none 0 0] 122)) := ⟨by simp [go_sem], by simp [go_sem], by simp [go_sem]⟩
  have hx2 : Box (w.heap.size + 1) (.bool t) (.slice co n2 cap2) (.slice eo m2 cap3) (((w.alloc (.cells #[.bool s, .slice ao n cap, .slice bo m cap'] 122)).alloc (.cells #[.bool t, .slice co n2 cap2, .slice eo m2 cap3] 122)).alloc (.cells #[.bool false, .slice none 0 0, .slice none 0 0] 122)) := ⟨by simp [go_sem], by simp [go_sem], by simp [go_sem]⟩
  simp only [World.size_alloc] at hr
  go_enter Try.func126, Try.ntmps126
  go_wp2_with fail
  generalize (((w.alloc (.cells #[.bool s, .slice ao n cap, .slice bo m cap'] 122)).alloc (.cells #[.bool t, .slice co n2 cap2, .slice eo m2 cap3] 122)).alloc (.cells #[.bool false, .slice none 0 0, .slice none 0 0] 122)) = W at *
  have hK : ∀ w' w'', (w'.cell? ⟨w.heap.size, 1, none⟩ = some (.slice ao n cap) ∧ w'.cell? ⟨w.heap.size, 2, none⟩ = some (.slice bo m cap') ∧ w'.cell? ⟨w.heap.size + 1, 1, none⟩ = some (.slice co n2 cap2) ∧ w'.cell? ⟨w.heap.size + 1, 2, none⟩ = some (.slice eo m2 cap3) ∧ Box w.heap.size (.bool s) (.slice ao n cap) (.slice bo m cap') w' ∧ Box (w.heap.size + 1) (.bool t) (.slice co n2 cap2) (.slice eo m2 cap3) w' ∧ Res w (w.heap.size + 1 + 1) false none 0 0 none 0 0 w') → Below w'.heap.size w' w'' → (w''.cell? ⟨w.heap.size, 1, none⟩ = some (.slice ao n cap) ∧ w''.cell? ⟨w.heap.size, 2, none⟩ = some (.slice bo m cap') ∧ w''.cell? ⟨w.heap.size + 1, 1, none⟩ = some (.slice co n2 cap2) ∧ w''.cell? ⟨w.heap.size + 1, 2, none⟩ = some (.slice eo m2 cap3) ∧ Box w.heap.size (.bool s) (.slice ao n cap) (.slice bo m cap') w'' ∧ Box (w.heap.size + 1) (.bool t) (.slice co n2 cap2) (.slice eo m2 cap3) w'' ∧ Res w (w.heap.size + 1 + 1) false none 0 0 none 0 0 w'') :=
    fun w' w'' h hb => have t1 := h.2.2.2.2.1.next hb; have t2 := h.2.2.2.2.2.1.next hb; ⟨t1.c1, t1.c2, t2.c1, t2.c2, t1, t2, h.2.2.2.2.2.2.next hb⟩
  have h0 : (W.cell? ⟨w.heap.size, 1, none⟩ = some (.slice ao n cap) ∧ W.cell? ⟨w.heap.size, 2, none⟩ = some (.slice bo m cap') ∧ W.cell? ⟨w.heap.size + 1, 1, none⟩ = some (.slice co n2 cap2) ∧ W.cell? ⟨w.heap.size + 1, 2, none⟩ = some (.slice eo m2 cap3) ∧ Box w.heap.size (.bool s) (.slice ao n cap) (.slice bo m cap') W ∧ Box (w.heap.size + 1) (.bool t) (.slice co n2 cap2) (.slice eo m2 cap3) W ∧ Res w (w.heap.size + 1 + 1) false none 0 0 none 0 0 W) := ⟨hx1.c1, hx1.c2, hx2.c1, hx2.c2, hx1, hx2, hr⟩
  have h1 := hK W W.drew h0 (Below.refl _ W).drew
  go_region_held3 (fun w' => (w'.cell? ⟨w.heap.size, 1, none⟩ = some (.slice ao n cap) ∧ w'.cell? ⟨w.heap.size, 2, none⟩ = some (.slice bo m cap') ∧ w'.cell? ⟨w.heap.size + 1, 1, none⟩ = some (.slice co n2 cap2) ∧ w'.cell? ⟨w.heap.size + 1, 2, none⟩ = some (.slice eo m2 cap3) ∧ Box w.heap.size (.bool s) (.slice ao n cap) (.slice bo m cap') w' ∧ Box (w.heap.size + 1) (.bool t) (.slice co n2 cap2) (.slice eo m2 cap3) w' ∧ Res w (w.heap.size + 1 + 1) false none 0 0 none 0 0 w'))
    (first | assumption | exact hK _ _ (by assumption) hbX | exact hK _ _ (by assumption) hbY | exact hK _ _ (by assumption) hbZ | exact hK W.drew _ h1 hbX)
    (first
      | (go_at_call_of 128 (Value.slice ao n cap); refine (TX.out _ h1.2.2.2.2.2.2.bel).mono ?_; rintro e wx ⟨xo, xn, xc, rfl, sX, hzX, hbX, _⟩; have h2 := hK _ wx h1 hbX)
      | (go_at_call_of 128 (Value.slice co n2 cap2); refine (TY.out _ h2.2.2.2.2.2.2.bel).mono ?_; rintro e wy ⟨yo, yn, yc, rfl, sY, hzY, hbY, _⟩; have h3 := hK _ wy h2 hbY)
      | (go_at_call 128; refine (TZ.out _ h3.2.2.2.2.2.2.bel).mono ?_; rintro e wz ⟨zo, zn, zc, rfl, sZ, hzZ, hbZ, _⟩; have h4 := hK _ wz h3 hbZ))
  obtain ⟨hx1z, hx2z, hrz⟩ := h4.2.2.2.2
  have sXz := (sX.next hbY).next hbZ
  have sYz := sY.next hbZ
  have sZz := sZ
  have hxn : xn ≤ 17179869184 := by rw [← sX.lenU]; exact hlx
  have hyn : yn ≤ 17179869184 := by rw [← sY.lenU]; exact hly
  obtain ⟨c0, _, _⟩ := hx1z
  obtain ⟨b0, _, _⟩ := hx2z
  clear h0 h1 h2 h3 h4 hK hx1 hx2 hr
  by_cases hst : s = t
  · subst hst
    have hss : (s == s) = true := by simp
    go_wp2_with fail
    have hK' : ∀ w' w'', (w'.cell? ⟨w.heap.size, 0, none⟩ = some (.bool s) ∧ Below w.heap.size w w') → Below w'.heap.size w' w'' → (w''.cell? ⟨w.heap.size, 0, none⟩ = some (.bool s) ∧ Below w.heap.size w w'') := fun w' w'' h hb => ⟨cell_later hb h.1, below_chain h.2 hb⟩
    have hSt : ∀ w' (x y z : Value), (w'.cell? ⟨w.heap.size, 0, none⟩ = some (.bool s) ∧ Below w.heap.size w w') → ((((w'.setCell ⟨w.heap.size + 1 + 1, 0, none⟩ x).setCell ⟨w.heap.size + 1 + 1, 1, none⟩ y).setCell ⟨w.heap.size + 1 + 1, 2, none⟩ z).cell? ⟨w.heap.size, 0, none⟩ = some (.bool s) ∧ Below w.heap.size w (((w'.setCell ⟨w.heap.size + 1 + 1, 0, none⟩ x).setCell ⟨w.heap.size + 1 + 1, 1, none⟩ y).setCell ⟨w.heap.size + 1 + 1, 2, none⟩ z)) := fun w' x y z h => ⟨(cell_set3 (by omega) x y z).trans h.1, below_set3 h.2 (by omega) x y z⟩
    have hrd := hrz.next (Below.refl _ wz).drew
    have hbase : (wz.drew.cell? ⟨w.heap.size, 0, none⟩ = some (.bool s) ∧ Below w.heap.size w wz.drew) := ⟨cell_later (Below.refl _ wz).drew c0, hrd.bel⟩
    go_region_held3 (fun w' => (w'.cell? ⟨w.heap.size, 0, none⟩ = some (.bool s) ∧ Below w.heap.size w w'))
      (first | assumption | exact hbase | exact hK' _ _ (by assumption) hbp | exact hSt _ _ _ _ (by assumption) | exact hSt _ _ _ _ (hK' _ _ hbase hbp) | exact hK' wz.drew _ hbase hbp)
      ((go_at_call 133; refine (plusD X Y (sXz.next (Below.refl _ wz).drew) (sYz.next (Below.refl _ wz).drew) (by omega) (by omega)).mono ?_; rintro e wp ⟨po, pn, pc, rfl, sP, hzp, hbp, _⟩; have hrp := hrd.next hbp; obtain ⟨d0, d1, d2, g0, g1, g2, _, _, _, _⟩ := hrd.next hbp))
    go_wp2_with fail
    refine bodyPost_ret (v := .agg #[.bool s, .slice po pn pc, .slice zo zn zc]) (by simp [results, Try.results126, go_sem, d0, d1, d2]) rfl ?_
    have fr := hrp.fr (neg := s) sP ((sZz.next (Below.refl _ wz).drew).next hbp) hzp hzZ hZ0
    rw [← HZ.out] at fr
    exact ⟨s, X + Y, fr, by rw [hsX.out, hsY.out]; cases s <;> simp [sgn] <;> omega, by rw [HX.out, HY.out]; exact Nat.le_refl _⟩
  · have hss : (s == t) = false := by simpa using hst
    go_wp2_with fail
    refine (cmpD X Y sXz sYz).mono ?_; rintro e wz' ⟨rfl, rfl⟩
    by_cases hge : Y ≤ X
    · have hd : decide (0 ≤ ord X Y) = true := by
        rw [decide_eq_true_eq]; unfold ord; rw [if_neg (by omega)]; split <;> decide
      go_wp2_with fail
      have hK' : ∀ w' w'', (w'.cell? ⟨w.heap.size, 0, none⟩ = some (.bool s) ∧ Below w.heap.size w w') → Below w'.heap.size w' w'' → (w''.cell? ⟨w.heap.size, 0, none⟩ = some (.bool s) ∧ Below w.heap.size w w'') := fun w' w'' h hb => ⟨cell_later hb h.1, below_chain h.2 hb⟩
      have hSt : ∀ w' (x y z : Value), (w'.cell? ⟨w.heap.size, 0, none⟩ = some (.bool s) ∧ Below w.heap.size w w') → ((((w'.setCell ⟨w.heap.size + 1 + 1, 0, none⟩ x).setCell ⟨w.heap.size + 1 + 1, 1, none⟩ y).setCell ⟨w.heap.size + 1 + 1, 2, none⟩ z).cell? ⟨w.heap.size, 0, none⟩ = some (.bool s) ∧ Below w.heap.size w (((w'.setCell ⟨w.heap.size + 1 + 1, 0, none⟩ x).setCell ⟨w.heap.size + 1 + 1, 1, none⟩ y).setCell ⟨w.heap.size + 1 + 1, 2, none⟩ z)) := fun w' x y z h => ⟨(cell_set3 (by omega) x y z).trans h.1, below_set3 h.2 (by omega) x y z⟩
      have hrd := hrz.next (Below.refl _ wz).drew
      have hbase : (wz.drew.cell? ⟨w.heap.size, 0, none⟩ = some (.bool s) ∧ Below w.heap.size w wz.drew) := ⟨cell_later (Below.refl _ wz).drew c0, hrd.bel⟩
      go_region_held3 (fun w' => (w'.cell? ⟨w.heap.size, 0, none⟩ = some (.bool s) ∧ Below w.heap.size w w'))
        (first | assumption | exact hbase | exact hK' _ _ (by assumption) hbp | exact hSt _ _ _ _ (by assumption) | exact hSt _ _ _ _ (hK' _ _ hbase hbp) | exact hK' wz.drew _ hbase hbp)
        ((go_at_call 154; refine (minusD X Y hge (sXz.next (Below.refl _ wz).drew) (sYz.next (Below.refl _ wz).drew) (by omega) (by omega)).mono ?_; rintro e wp ⟨po, pn, pc, rfl, sP, hzp, hbp, _⟩; have hrp := hrd.next hbp; obtain ⟨d0, d1, d2, g0, g1, g2, _, _, _, _⟩ := hrd.next hbp))
      go_wp2_with fail
      refine bodyPost_ret (v := .agg #[.bool s, .slice po pn pc, .slice zo zn zc]) (by simp [results, Try.results126, go_sem, d0, d1, d2]) rfl ?_
      have fr := hrp.fr (neg := s) sP ((sZz.next (Below.refl _ wz).drew).next hbp) hzp hzZ hZ0
      rw [← HZ.out] at fr
      exact ⟨s, X - Y, fr, by rw [hsX.out, hsY.out]; revert hst; cases s <;> cases t <;> simp [sgn] <;> omega, by rw [HX.out, HY.out]; omega⟩
    · have hd : decide (0 ≤ ord X Y) = false := by
        rw [decide_eq_false_iff_not]; unfold ord; rw [if_pos (by omega)]; decide
      go_wp2_with fail
      have hK' : ∀ w' w'', (w'.cell? ⟨w.heap.size + 1, 0, none⟩ = some (.bool t) ∧ Below w.heap.size w w') → Below w'.heap.size w' w'' → (w''.cell? ⟨w.heap.size + 1, 0, none⟩ = some (.bool t) ∧ Below w.heap.size w w'') := fun w' w'' h hb => ⟨cell_later hb h.1, below_chain h.2 hb⟩
      have hSt : ∀ w' (x y z : Value), (w'.cell? ⟨w.heap.size + 1, 0, none⟩ = some (.bool t) ∧ Below w.heap.size w w') → ((((w'.setCell ⟨w.heap.size + 1 + 1, 0, none⟩ x).setCell ⟨w.heap.size + 1 + 1, 1, none⟩ y).setCell ⟨w.heap.size + 1 + 1, 2, none⟩ z).cell? ⟨w.heap.size + 1, 0, none⟩ = some (.bool t) ∧ Below w.heap.size w (((w'.setCell ⟨w.heap.size + 1 + 1, 0, none⟩ x).setCell ⟨w.heap.size + 1 + 1, 1, none⟩ y).setCell ⟨w.heap.size + 1 + 1, 2, none⟩ z)) := fun w' x y z h => ⟨(cell_set3 (by omega) x y z).trans h.1, below_set3 h.2 (by omega) x y z⟩
      have hrd := hrz.next (Below.refl _ wz).drew
      have hbase : (wz.drew.cell? ⟨w.heap.size + 1, 0, none⟩ = some (.bool t) ∧ Below w.heap.size w wz.drew) := ⟨cell_later (Below.refl _ wz).drew b0, hrd.bel⟩
      go_region_held3 (fun w' => (w'.cell? ⟨w.heap.size + 1, 0, none⟩ = some (.bool t) ∧ Below w.heap.size w w'))
        (first | assumption | exact hbase | exact hK' _ _ (by assumption) hbp | exact hSt _ _ _ _ (by assumption) | exact hSt _ _ _ _ (hK' _ _ hbase hbp) | exact hK' wz.drew _ hbase hbp)
        ((go_at_call 154; refine (minusD Y X (by omega) (sYz.next (Below.refl _ wz).drew) (sXz.next (Below.refl _ wz).drew) (by omega) (by omega)).mono ?_; rintro e wp ⟨po, pn, pc, rfl, sP, hzp, hbp, _⟩; have hrp := hrd.next hbp; obtain ⟨d0, d1, d2, g0, g1, g2, _, _, _, _⟩ := hrd.next hbp))
      go_wp2_with fail
      refine bodyPost_ret (v := .agg #[.bool t, .slice po pn pc, .slice zo zn zc]) (by simp [results, Try.results126, go_sem, d0, d1, d2]) rfl ?_
      have fr := hrp.fr (neg := t) sP ((sZz.next (Below.refl _ wz).drew).next hbp) hzp hzZ hZ0
      rw [← HZ.out] at fr
      exact ⟨t, Y - X, fr, by rw [hsX.out, hsY.out]; revert hst; cases s <;> cases t <;> simp [sgn] <;> omega, by rw [HX.out, HY.out]; omega⟩

end Go.Proofs.Yteancfcmiiddiaa
