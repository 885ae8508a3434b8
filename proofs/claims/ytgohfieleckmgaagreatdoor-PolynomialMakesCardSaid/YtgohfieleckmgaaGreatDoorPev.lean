/-
  The contracts of Eval of packages polynomial and weightedref02. No condition but sizes.
-/
import Derived.Test.YtgohfieleckmgaaGreatDoorPlkS
namespace Go.Proofs.YtgohfieleckmgaaGreatDoor
open Go.RowKit
set_option linter.unusedSimpArgs false
set_option linter.unusedVariables false

/-! ### Values, plain -/
def evN (x y z : Rat) (l : List Mn) : Rat := sumL l fun m => m.2 * monE x y z m.1
theorem evN_end (x y z : Rat) (P : Pl) : evN x y z (lst P) = evalP x y z P := by
  have h1 : evN x y z (lst P) = sumL (supp P) fun e => P e * monE x y z e := by
    unfold evN lst sumL
    rw [List.map_map]; rfl
  rw [h1]
  unfold evalP supp
  refine sumL_filter _ _ _ fun e _ h => ?_
  have : P e = 0 := by simpa using h
  rw [this]; grind
theorem evN_take (x y z : Rat) {l : List Mn} {i : Nat} {m : Mn} (h : l[i]? = some m) : evN x y z (l.take (i + 1)) = evN x y z (l.take i) + m.2 * monE x y z m.1 := by
  unfold evN
  rw [List.take_add_one, h]
  show sumL (l.take i ++ [m]) _ = _
  rw [sumL_append, sumL_cons, sumL_nil]; grind
theorem fit_powQ {k a : Nat} {q x : Rat} (hq : Fit k q) (hx : Fit a x) : ∀ j, Fit (k + a * j) (q * x ^ j)
  | 0 => by rw [Rat.pow_zero, Rat.mul_one]; exact hq.mono (by omega)
  | j + 1 => by
    rw [Rat.pow_succ, ← Rat.mul_assoc]
    exact (fit_mul (fit_powQ hq hx j) hx).mono (by rw [Nat.mul_succ]; omega)
/-- A monomial's value so far. -/
def stM (q x y z : Rat) (m1 m2 m3 : Nat) : Nat → Rat
  | 0 => q
  | 1 => q * x ^ m1
  | 2 => q * x ^ m1 * y ^ m2
  | _ => q * x ^ m1 * y ^ m2 * z ^ m3
theorem stM_end (q x y z : Rat) (m1 m2 m3 : Nat) : stM q x y z m1 m2 m3 3 = q * monE x y z (m1, m2, m3) := by
  unfold monE
  show q * x ^ m1 * y ^ m2 * z ^ m3 = q * (x ^ m1 * y ^ m2 * z ^ m3)
  rw [Rat.mul_assoc, Rat.mul_assoc, ← Rat.mul_assoc (x ^ m1)]
theorem fit_stM {k a : Nat} {q x y z : Rat} {m1 m2 m3 : Nat} (hq : Fit k q) (hx : Fit a x) (hy : Fit a y) (hz : Fit a z) (hd : m1 + m2 + m3 ≤ 5) : Fit (k + 5 * a) (q * x ^ m1 * y ^ m2 * z ^ m3) := by
  refine (fit_powQ (fit_powQ (fit_powQ hq hx m1) hy m2) hz m3).mono ?_
  have h1 : a * m1 + a * m2 + a * m3 = a * (m1 + m2 + m3) := by rw [Nat.mul_add, Nat.mul_add]
  have h2 : a * (m1 + m2 + m3) ≤ a * 5 := Nat.mul_le_mul_left _ hd
  omega
theorem fit_evN {k a : Nat} {x y z : Rat} {P : Pl} (hP : FitP k P) (hx : Fit a x) (hy : Fit a y) (hz : Fit a z) (i : Nat) : Fit (1 + 56 * (k + 5 * a + 1)) (evN x y z ((lst P).take i)) := by
  refine (sum_fit (s := k + 5 * a) fun m hm => ?_).mono ?_
  · have hm' := List.mem_of_mem_take hm
    obtain ⟨⟨m1, m2, m3⟩, q⟩ := m
    have := stM_end q x y z m1 m2 m3
    show Fit _ (q * monE x y z (m1, m2, m3))
    rw [← this]
    exact fit_stM (hP.mem hm') hx hy hz (lst_at hm').1
  · have h1 : ((lst P).take i).length ≤ 56 := by rw [List.length_take]; have := len_lst P; omega
    have := Nat.mul_le_mul_right (k + 5 * a + 1) h1
    omega
theorem fit_evP {k a : Nat} {x y z : Rat} {P : Pl} (hP : FitP k P) (hx : Fit a x) (hy : Fit a y) (hz : Fit a z) : Fit (1 + 56 * (k + 5 * a + 1)) (evalP x y z P) := by
  have := fit_evN hP hx hy hz (lst P).length
  rwa [List.take_length, evN_end] at this
theorem BkQ.next {w w' w'' : World} {G : Nat} {q : Rat} (h : BkQ w G q w') (hb : Below w'.heap.size w' w'') : BkQ w G q w'' := by
  obtain ⟨s, ao, n, cap, bo, m, cap', h1, h2⟩ := h
  exact ⟨s, ao, n, cap, bo, m, cap', h1.next hb, h2.next hb⟩
/-- The three numbers of a box. -/
def At9 (G : Nat) (s0 : Bool) (po0 : Option Addr) (pn0 pc0 : Nat) (qo0 : Option Addr) (qn0 qc0 : Nat) (s1 : Bool) (po1 : Option Addr) (pn1 pc1 : Nat) (qo1 : Option Addr) (qn1 qc1 : Nat) (s2 : Bool) (po2 : Option Addr) (pn2 pc2 : Nat) (qo2 : Option Addr) (qn2 qc2 : Nat) (w : World) : Prop :=
  w.cell? ⟨G, 0, none⟩ = some (.bool s0) ∧ w.cell? ⟨G, 1, none⟩ = some (.slice po0 pn0 pc0) ∧ w.cell? ⟨G, 2, none⟩ = some (.slice qo0 qn0 qc0) ∧ w.cell? ⟨G, 3, none⟩ = some (.bool s1) ∧ w.cell? ⟨G, 4, none⟩ = some (.slice po1 pn1 pc1) ∧ w.cell? ⟨G, 5, none⟩ = some (.slice qo1 qn1 qc1) ∧ w.cell? ⟨G, 6, none⟩ = some (.bool s2) ∧ w.cell? ⟨G, 7, none⟩ = some (.slice po2 pn2 pc2) ∧ w.cell? ⟨G, 8, none⟩ = some (.slice qo2 qn2 qc2)
theorem At9.next {G : Nat} {s0 : Bool} {po0 : Option Addr} {pn0 pc0 : Nat} {qo0 : Option Addr} {qn0 qc0 : Nat} {s1 : Bool} {po1 : Option Addr} {pn1 pc1 : Nat} {qo1 : Option Addr} {qn1 qc1 : Nat} {s2 : Bool} {po2 : Option Addr} {pn2 pc2 : Nat} {qo2 : Option Addr} {qn2 qc2 : Nat} {w w' : World} (h : At9 G s0 po0 pn0 pc0 qo0 qn0 qc0 s1 po1 pn1 pc1 qo1 qn1 qc1 s2 po2 pn2 pc2 qo2 qn2 qc2 w) (hb : Below w.heap.size w w') : At9 G s0 po0 pn0 pc0 qo0 qn0 qc0 s1 po1 pn1 pc1 qo1 qn1 qc1 s2 po2 pn2 pc2 qo2 qn2 qc2 w' :=
  ⟨cell_later hb h.1, cell_later hb h.2.1, cell_later hb h.2.2.1, cell_later hb h.2.2.2.1, cell_later hb h.2.2.2.2.1, cell_later hb h.2.2.2.2.2.1, cell_later hb h.2.2.2.2.2.2.1, cell_later hb h.2.2.2.2.2.2.2.1, cell_later hb h.2.2.2.2.2.2.2.2⟩
abbrev C3a (B : Nat) (x y z : Value) (w : World) : Prop := w.cell? ⟨B, 3, none⟩ = some x ∧ w.cell? ⟨B, 4, none⟩ = some y ∧ w.cell? ⟨B, 5, none⟩ = some z
abbrev C3b (B : Nat) (x y z : Value) (w : World) : Prop := w.cell? ⟨B, 6, none⟩ = some x ∧ w.cell? ⟨B, 7, none⟩ = some y ∧ w.cell? ⟨B, 8, none⟩ = some z
theorem C3x.next0 {B : Nat} {x y z : Value} {w w' : World} (h : C3 B x y z w) (hb : Below w.heap.size w w') : C3 B x y z w' := C3.next h hb
theorem C3x.next1 {B : Nat} {x y z : Value} {w w' : World} (h : C3a B x y z w) (hb : Below w.heap.size w w') : C3a B x y z w' := ⟨cell_later hb h.1, cell_later hb h.2.1, cell_later hb h.2.2⟩
theorem C3x.next2 {B : Nat} {x y z : Value} {w w' : World} (h : C3b B x y z w) (hb : Below w.heap.size w w') : C3b B x y z w' := ⟨cell_later hb h.1, cell_later hb h.2.1, cell_later hb h.2.2⟩
theorem At9.c0 {G : Nat} {s0 : Bool} {po0 : Option Addr} {pn0 pc0 : Nat} {qo0 : Option Addr} {qn0 qc0 : Nat} {s1 : Bool} {po1 : Option Addr} {pn1 pc1 : Nat} {qo1 : Option Addr} {qn1 qc1 : Nat} {s2 : Bool} {po2 : Option Addr} {pn2 pc2 : Nat} {qo2 : Option Addr} {qn2 qc2 : Nat} {w : World} (h : At9 G s0 po0 pn0 pc0 qo0 qn0 qc0 s1 po1 pn1 pc1 qo1 qn1 qc1 s2 po2 pn2 pc2 qo2 qn2 qc2 w) : C3 G (.bool s0) (.slice po0 pn0 pc0) (.slice qo0 qn0 qc0) w := ⟨h.1, h.2.1, h.2.2.1⟩
theorem At9.c1 {G : Nat} {s0 : Bool} {po0 : Option Addr} {pn0 pc0 : Nat} {qo0 : Option Addr} {qn0 qc0 : Nat} {s1 : Bool} {po1 : Option Addr} {pn1 pc1 : Nat} {qo1 : Option Addr} {qn1 qc1 : Nat} {s2 : Bool} {po2 : Option Addr} {pn2 pc2 : Nat} {qo2 : Option Addr} {qn2 qc2 : Nat} {w : World} (h : At9 G s0 po0 pn0 pc0 qo0 qn0 qc0 s1 po1 pn1 pc1 qo1 qn1 qc1 s2 po2 pn2 pc2 qo2 qn2 qc2 w) : C3a G (.bool s1) (.slice po1 pn1 pc1) (.slice qo1 qn1 qc1) w := ⟨h.2.2.2.1, h.2.2.2.2.1, h.2.2.2.2.2.1⟩
theorem At9.c2 {G : Nat} {s0 : Bool} {po0 : Option Addr} {pn0 pc0 : Nat} {qo0 : Option Addr} {qn0 qc0 : Nat} {s1 : Bool} {po1 : Option Addr} {pn1 pc1 : Nat} {qo1 : Option Addr} {qn1 qc1 : Nat} {s2 : Bool} {po2 : Option Addr} {pn2 pc2 : Nat} {qo2 : Option Addr} {qn2 qc2 : Nat} {w : World} (h : At9 G s0 po0 pn0 pc0 qo0 qn0 qc0 s1 po1 pn1 pc1 qo1 qn1 qc1 s2 po2 pn2 pc2 qo2 qn2 qc2 w) : C3b G (.bool s2) (.slice po2 pn2 pc2) (.slice qo2 qn2 qc2) w := ⟨h.2.2.2.2.2.2.1, h.2.2.2.2.2.2.2.1, h.2.2.2.2.2.2.2.2⟩
theorem fit_st0 {k a : Nat} {q x : Rat} {j m1 m2 m3 : Nat} (hq : Fit k q) (hx : Fit a x) (h0 : True ∨ True ∧ k ≤ k) (hj : j ≤ m1) (hd : m1 + m2 + m3 ≤ 5) : Fit (k + 5 * a) (q * x ^ j) := by
  refine (fit_powQ hq hx j).mono ?_
  have : a * j ≤ a * 5 := Nat.mul_le_mul_left _ (by omega)
  omega
theorem fit_st1 {k a : Nat} {q x y : Rat} {j m1 m2 m3 : Nat} (hq : Fit k q) (hx : Fit a x) (hy : Fit a y) (h0 : True ∨ True ∧ k ≤ k) (hj : j ≤ m2) (hd : m1 + m2 + m3 ≤ 5) : Fit (k + 5 * a) (q * x ^ m1 * y ^ j) := by
  refine (fit_powQ (fit_powQ hq hx m1) hy j).mono ?_
  have : a * m1 + a * j ≤ a * 5 := by rw [← Nat.mul_add]; exact Nat.mul_le_mul_left _ (by omega)
  omega
theorem fit_st2 {k a : Nat} {q x y z : Rat} {j m1 m2 m3 : Nat} (hq : Fit k q) (hx : Fit a x) (hy : Fit a y) (hz : Fit a z) (h0 : True ∨ True ∧ k ≤ k) (hj : j ≤ m3) (hd : m1 + m2 + m3 ≤ 5) : Fit (k + 5 * a) (q * x ^ m1 * y ^ m2 * z ^ j) := by
  refine (fit_powQ (fit_powQ (fit_powQ hq hx m1) hy m2) hz j).mono ?_
  have : a * m1 + a * m2 + a * j ≤ a * 5 := by rw [← Nat.mul_add, ← Nat.mul_add]; exact Nat.mul_le_mul_left _ (by omega)
  omega

set_option maxRecDepth 100000 in
set_option maxHeartbeats 8000000 in
theorem pEvalP_any (P : Pl) (x y z : Rat) (v : Value) (s0 : Bool) (po0 : Option Addr) (pn0 pc0 : Nat) (qo0 : Option Addr) (qn0 qc0 : Nat) (s1 : Bool) (po1 : Option Addr) (pn1 pc1 : Nat) (qo1 : Option Addr) (qn1 qc1 : Nat) (s2 : Bool) (po2 : Option Addr) (pn2 pc2 : Nat) (qo2 : Option Addr) (qn2 qc2 : Nat) (w : World) (h : PolV w v P) (h0 : RatV w (.agg #[.bool s0, .slice po0 pn0 pc0, .slice qo0 qn0 qc0]) x) (h1 : RatV w (.agg #[.bool s1, .slice po1 pn1 pc1, .slice qo1 qn1 qc1]) y) (h2 : RatV w (.agg #[.bool s2, .slice po2 pn2 pc2, .slice qo2 qn2 qc2]) z) (k a : Nat) (hP : FitP k P) (fx : Fit a x) (fy : Fit a y) (fz : Fit a z) (hk : 57 * (k + 5 * a + 1) + 1 ≤ 4294967296) :
    Calls Tryz.prog 36 #[v, .agg #[.bool s0, .slice po0 pn0 pc0, .slice qo0 qn0 qc0, .bool s1, .slice po1 pn1 pc1, .slice qo1 qn1 qc1, .bool s2, .slice po2 pn2 pc2, .slice qo2 qn2 qc2]] w (RatOut w (evalP x y z P)) := by
  obtain ⟨_, _, _, _, rfl, _⟩ := id h
  obtain ⟨n, hn⟩ : ∃ n, (lst P).length = n := ⟨_, rfl⟩
  have hnb : n ≤ 56 := by rw [← hn]; exact len_lst P
  have Hn := hid hn
  have hPk := hid hP
  have Fx := hid fx
  have Fy := hid fy
  have Fz := hid fz
  have hsum := hid (fun i => fit_evN hP fx fy fz i)
  obtain ⟨sz, hs⟩ : ∃ sz, k + 5 * a = sz := ⟨_, rfl⟩
  rw [hs] at hsum hk
  have Hs := hid hs
  have hk1 : 1 + 56 * (sz + 1) ≤ 4294967296 := by omega
  have hks : k ≤ sz := by omega
  have hbox : At9 w.heap.size s0 po0 pn0 pc0 qo0 qn0 qc0 s1 po1 pn1 pc1 qo1 qn1 qc1 s2 po2 pn2 pc2 qo2 qn2 qc2 ((w.alloc (.cells #[.bool s0, .slice po0 pn0 pc0, .slice qo0 qn0 qc0, .bool s1, .slice po1 pn1 pc1, .slice qo1 qn1 qc1, .bool s2, .slice po2 pn2 pc2, .slice qo2 qn2 qc2] 45)).alloc (.cells #[.bool false, .slice none 0 0, .slice none 0 0] 25)) := by
    unfold At9
    simp [go_sem]
  have hR : Res w (w.heap.size + 1) false none 0 0 none 0 0 ((w.alloc (.cells #[.bool s0, .slice po0 pn0 pc0, .slice qo0 qn0 qc0, .bool s1, .slice po1 pn1 pc1, .slice qo1 qn1 qc1, .bool s2, .slice po2 pn2 pc2, .slice qo2 qn2 qc2] 45)).alloc (.cells #[.bool false, .slice none 0 0, .slice none 0 0] 25)) := Res.startAt (below_alloc _) (by simp) _ _ _ _ _ _ _ _
  have hb01 : Below w.heap.size w ((w.alloc (.cells #[.bool s0, .slice po0 pn0 pc0, .slice qo0 qn0 qc0, .bool s1, .slice po1 pn1 pc1, .slice qo1 qn1 qc1, .bool s2, .slice po2 pn2 pc2, .slice qo2 qn2 qc2] 45)).alloc (.cells #[.bool false, .slice none 0 0, .slice none 0 0] 25)) := hR.bel
  obtain ⟨ao, cap, hC, hval⟩ := value_old P _ w h
  rw [hn] at hval
  have hPol : Pol RatC ((w.alloc (.cells #[.bool s0, .slice po0 pn0 pc0, .slice qo0 qn0 qc0, .bool s1, .slice po1 pn1 pc1, .slice qo1 qn1 qc1, .bool s2, .slice po2 pn2 pc2, .slice qo2 qn2 qc2] 45)).alloc (.cells #[.bool false, .slice none 0 0, .slice none 0 0] 25)) ao n cap ((lst P).map toM) := by
    have := hC; unfold PolC at this; rw [hn] at this; exact Pol.nextC this hb01
  have hB5 : Bk ((w.alloc (.cells #[.bool s0, .slice po0 pn0 pc0, .slice qo0 qn0 qc0, .bool s1, .slice po1 pn1 pc1, .slice qo1 qn1 qc1, .bool s2, .slice po2 pn2 pc2, .slice qo2 qn2 qc2] 45)).alloc (.cells #[.bool false, .slice none 0 0, .slice none 0 0] 25)) (w.heap.size + 1 + 1) (.bool false) (.slice none 0 0) (.slice none 0 0) (((w.alloc (.cells #[.bool s0, .slice po0 pn0 pc0, .slice qo0 qn0 qc0, .bool s1, .slice po1 pn1 pc1, .slice qo1 qn1 qc1, .bool s2, .slice po2 pn2 pc2, .slice qo2 qn2 qc2] 45)).alloc (.cells #[.bool false, .slice none 0 0, .slice none 0 0] 25)).alloc (.cells #[.bool false, .slice none 0 0, .slice none 0 0] 25)) := Bk.start (Below.refl _ _) (by simp) _ _ _ _
  have hv2 := hid (hval _ (below_chain hb01 (below_alloc (.cells #[.bool false, .slice none 0 0, .slice none 0 0] 25))))
  have g0 := h0.next hb01
  have g1 := h1.next hb01
  have g2 := h2.next hb01
  clear h hn hP fx fy fz hs hC hval h0 h1 h2
  go_enter Tryz.func36, Tryz.ntmps36
  go_wp2_with fail
  generalize (w.alloc (.cells #[.bool s0, .slice po0 pn0 pc0, .slice qo0 qn0 qc0, .bool s1, .slice po1 pn1 pc1, .slice qo1 qn1 qc1, .bool s2, .slice po2 pn2 pc2, .slice qo2 qn2 qc2] 45)).alloc (.cells #[.bool false, .slice none 0 0, .slice none 0 0] 25) = W1 at *
  refine hv2.out.mono ?_; rintro e w1 ⟨rfl, hb1⟩
  generalize w.heap.size + 1 + 1 = G5 at *
  have hB5 := hB5.next hb1
  have hQ5 : BkQ W1 G5 (evN x y z ((lst P).take 0)) w1 := ⟨_, _, _, _, _, _, _, hB5, by show RatC _ _ 0; exact ratC_zero _⟩
  clear hb1 hv2 hB5
  have HPol := hid hPol
  have HR := hid hR
  have Hbox := hid hbox
  have G0 := hid g0
  have G1 := hid g1
  have G2 := hid g2
  clear hPol hR hbox g0 g1 g2
  go_wp2_with fail
  go_loopw [14] (fun iv wr => ∃ i : Nat, i ≤ n ∧ iv = .int .i64 i ∧ BkQ W1 G5 (evN x y z ((lst P).take i)) wr) (fun i _ => n - (intOf i).toNat)
  case atStart => exact ⟨0, by omega, rfl, hQ5⟩
  case round =>
    clear hQ5
    obtain ⟨i, hi, rfl, s5, ao5, an5, ac5, bo5, bn5, bc5, hB, hC⟩ := hrel
    have hbel := hB.bel
    by_cases hlt : i < n
    · obtain ⟨b, o, m1, m2, m3, qm, s, xo, xn, xc, yo, yn, yc, hgm, hbo, hX, hrm⟩ := HPol.out.atM hlt
      subst hbo
      have hmem := lst_at (List.mem_of_getElem? hgm)
      have hdeg : m1 + m2 + m3 ≤ 5 := hmem.1
      have hfm := hid (hPk.out.mem (List.mem_of_getElem? hgm))
      have hnx := hid (evN_take x y z hgm)
      have HX := hid hX
      have Hrm := hid hrm
      have i0 : (0 : Int) ≤ (i : Int) := by omega
      have i1 : (i : Int) < (n : Int) := by omega
      have d0 := idx0
      have d1 := idx1
      have d2 := idx2
      obtain ⟨⟨x0, x1, x2⟩, x3, x4, x5⟩ := H6.next hX hbel
      clear hgm hmem hX hrm
      have hb2 : Below wr.heap.size wr (wr.alloc (.cells #[.int .i64 m1, .int .i64 m2, .int .i64 m3, .bool s, .slice xo xn xc, .slice yo yn yc] 59)) := below_alloc _
      obtain ⟨⟨y0, y1, y2⟩, y3, y4, y5⟩ := H6.fresh wr m1 m2 m3 s xo xn xc yo yn yc 59
      simp only [Nat.zero_add] at y1 y2 y3 y4 y5
      have hv8 : Bk (wr.alloc (.cells #[.int .i64 m1, .int .i64 m2, .int .i64 m3, .bool s, .slice xo xn xc, .slice yo yn yc] 59)) (wr.heap.size + 1) (.bool s) (.slice xo xn xc) (.slice yo yn yc) ((wr.alloc (.cells #[.int .i64 m1, .int .i64 m2, .int .i64 m3, .bool s, .slice xo xn xc, .slice yo yn yc] 59)).alloc (.cells #[.bool s, .slice xo xn xc, .slice yo yn yc] 25)) := Bk.start (Below.refl _ _) (by simp) _ _ _ _
      obtain ⟨⟨z0, z1, z2⟩, z3, z4, z5⟩ := H6.next (H6.fresh wr m1 m2 m3 s xo xn xc yo yn yc 59) (below_alloc (.cells #[.bool s, .slice xo xn xc, .slice yo yn yc] 25))
      simp only [Nat.zero_add] at z1 z2 z3 z4 z5
      have hB2 := hB.next hb2
      have hC2 := hC.next hb2
      have hbel2 := below_chain hbel hb2
      go_wp2_with fail
      clear x0 x1 x2 x3 x4 x5 y0 y1 y2 y3 y4 y5 z0 z1 z2 z3 z4 z5 hb2
      generalize wr.alloc (.cells #[.int .i64 m1, .int .i64 m2, .int .i64 m3, .bool s, .slice xo xn xc, .slice yo yn yc] 59) = W2 at *
      generalize wr.heap.size + 1 = G8 at *
      have hQ8 : BkQ W2 G8 (stM qm x y z m1 m2 m3 0) (W2.alloc (.cells #[.bool s, .slice xo xn xc, .slice yo yn yc] 25)) := ⟨_, _, _, _, _, _, _, hv8, (Hrm.out.next hbel2).next (below_alloc _)⟩
      clear hv8
      have HB2 := hid hB2
      have HC2 := hid hC2
      clear hB hC hB2 hC2
      go_loopw [22] (fun jv wx => ∃ jj : Int, (jj = 0 ∨ jj = 1 ∨ jj = 2 ∨ jj = 3) ∧ jv = .int .i64 jj ∧ BkQ W2 G8 (stM qm x y z m1 m2 m3 jj.toNat) wx) (fun j _ => (3 - intOf j).toNat)
      case atStart => exact ⟨0, .inl rfl, rfl, hQ8⟩
      case round =>
        clear hQ8
        obtain ⟨jj, hjj, rfl, hQ⟩ := hrel
        rename World => Wj
        rcases hjj with rfl | rfl | rfl | rfl
        · have hQ0 : BkQ W2 G8 ((qm) * x ^ 0) Wj := by rw [Rat.pow_zero, Rat.mul_one]; exact hQ
          have hfb : Hid (∀ j, j ≤ m1 → Fit (k + 5 * a) ((qm) * x ^ j)) := hid (fun j hj => fit_st0 hfm.out Fx.out (.inl trivial) hj hdeg)
          clear hQ
          go_wp2_with fail
          go_loopw [27] (fun kv wx => ∃ kk : Nat, kk ≤ m1 ∧ kv = .int .i64 kk ∧ BkQ W2 G8 ((qm) * x ^ kk) wx) (fun c _ => (m1 : Nat) - (intOf c).toNat)
          case atStart => exact ⟨0, by omega, rfl, hQ0⟩
          case round =>
            clear hQ0
            obtain ⟨kk, hkk, rfl, sv, vo, vn, vc, uo, un, uc, hBv, hCv⟩ := hrel
            rename World => Wk
            have hbk := below_chain hbel2 hBv.bel
            by_cases hlk : kk < m1
            · have hlk' : (kk : Int) < (m1 : Int) := by omega
              have hdd : Below Wk.heap.size Wk Wk.drew := (Below.refl _ _).drew
              have hS0 := And.intro (C3.next hBv.c3 hdd) (At9.c0 (At9.next Hbox.out (below_chain hbk hdd)))
              have hBd := hBv.next hdd
              have hCd := (hCv.next hdd).toV ((hfb.out kk (by omega)).mono (by rw [Hs.out]; exact Nat.le_refl sz)) (by omega)
              have hXd := (G0.out.next hbk).next hdd
              have hfit1 := hid ((hfb.out kk (by omega)).mono (show k + 5 * a ≤ sz by have := Hs.out; omega))
              have hst : Hid (((qm) * x ^ kk) * x = (qm) * x ^ (kk + 1)) := hid (by rw [Rat.pow_succ, ← Rat.mul_assoc])
              clear hBv hCv
              go_wp2_with fail
              refine wp_region_D (fun w' => C3 G8 (.bool sv) (.slice vo vn vc) (.slice uo un uc) w' ∧ C3 w.heap.size (.bool s0) (.slice po0 pn0 pc0) (.slice qo0 qn0 qc0) w') [5] (by kernel_rfl) ?_
              refine wpAnyD_take (i := 0) (v := ?_) rfl (by kernel_rfl) (by kernel_rfl) (by kernel_rfl) (by kernel_rfl) (fun _ _ _ h => h) (Or.inl ⟨by rfl, ?_⟩) hS0 ?_
              rotate_left
              · intro w hw; obtain ⟨⟨s1', s2', s3'⟩, s4', s5', s6'⟩ := hw; first | (go_simp; done) | (go_simp; with_reducible rfl)
              refine wpAnyD_take (i := 1) (v := ?_) rfl (by kernel_rfl) (by kernel_rfl) (by kernel_rfl) (by kernel_rfl) (fun _ _ _ h => h) (Or.inl ⟨by rfl, ?_⟩) hS0 ?_
              rotate_left
              · intro w _; first | (go_simp; done) | (go_simp; with_reducible rfl)
              refine wpAnyD_take (i := 2) (v := ?_) rfl (by kernel_rfl) (by kernel_rfl) (by kernel_rfl) (by kernel_rfl) (fun _ _ _ h => h) (Or.inl ⟨by rfl, ?_⟩) hS0 ?_
              rotate_left
              · intro w _; first | (go_simp; done) | (go_simp; with_reducible rfl)
              refine wpAnyD_take (i := 3) (v := ?_) rfl (by kernel_rfl) (by kernel_rfl) (by kernel_rfl) (by kernel_rfl) (fun _ _ _ h => h) (Or.inl ⟨by rfl, ?_⟩) hS0 ?_
              rotate_left
              · intro w hw; obtain ⟨⟨s1', s2', s3'⟩, s4', s5', s6'⟩ := hw; first | (go_simp; done) | (go_simp; with_reducible rfl)
              refine wpAnyD_one (i := 4) (by kernel_rfl) rfl (fun KK hKK => ?_)
              go_simp
              go_at_call 58
              refine (Mul_any _ x _ _ _ hCd hXd sz hfit1.out (Fx.out.mono (Nat.le_trans (by have := Hs.out; omega) (Nat.le_refl sz))) (by omega)).mono ?_; rw [hst.out]; rintro e w6 ⟨v6, rfl, C6, hb6⟩
              obtain ⟨a1, a2, a3, a4, a5, a6, a7, rfl⟩ := C6.shape6
              have hS6 := And.intro (C3.next hS0.1 hb6) (C3x.next0 hS0.2 hb6)
              refine hKK _ _ ⟨fun _ => hS6, ?_⟩; clear hKK KK
              refine wpAnyD_one (i := 5) (by kernel_rfl) rfl (fun KK hKK => ?_)
              have hB6 := hBd.next hb6
              obtain ⟨e0, e1, e2⟩ := hB6.c3
              have f0 := hB6.free 0
              have f1 := hB6.free 1
              have f2 := hB6.free 2
              have hQ6 := hid (hB6.putQ C6)
              go_simp
              refine hKK _ _ ⟨fun hn => absurd (by simp) hn, ?_⟩; clear hKK KK
              refine wpAnyD_done (by kernel_rfl) ?_ _
              go_simp
              go_wp2_with fail
              go_roundw
              case rel => exact ⟨kk + 1, by omega, by go_num, hQ6.out⟩
              case measure => simp [intOf]; omega
            · have hkm : kk = m1 := by omega
              have hlk' : ¬ ((kk : Int) < (m1 : Int)) := by omega
              rw [hkm] at hCv
              have hQn : BkQ W2 G8 (stM qm x y z m1 m2 m3 1) Wk := ⟨_, _, _, _, _, _, _, hBv, hCv⟩
              clear hBv hCv hkm hlk
              go_wp2_with fail
              go_roundw
              case rel => exact ⟨1, by omega, by go_num, hQn⟩
              case measure => simp [intOf]
        · have hQ0 : BkQ W2 G8 ((qm * x ^ m1) * y ^ 0) Wj := by rw [Rat.pow_zero, Rat.mul_one]; exact hQ
          have hfb : Hid (∀ j, j ≤ m2 → Fit (k + 5 * a) ((qm * x ^ m1) * y ^ j)) := hid (fun j hj => fit_st1 hfm.out Fx.out Fy.out (.inl trivial) hj hdeg)
          clear hQ
          go_wp2_with fail
          go_loopw [27] (fun kv wx => ∃ kk : Nat, kk ≤ m2 ∧ kv = .int .i64 kk ∧ BkQ W2 G8 ((qm * x ^ m1) * y ^ kk) wx) (fun c _ => (m2 : Nat) - (intOf c).toNat)
          case atStart => exact ⟨0, by omega, rfl, hQ0⟩
          case round =>
            clear hQ0
            obtain ⟨kk, hkk, rfl, sv, vo, vn, vc, uo, un, uc, hBv, hCv⟩ := hrel
            rename World => Wk
            have hbk := below_chain hbel2 hBv.bel
            by_cases hlk : kk < m2
            · have hlk' : (kk : Int) < (m2 : Int) := by omega
              have hdd : Below Wk.heap.size Wk Wk.drew := (Below.refl _ _).drew
              have hS0 := And.intro (C3.next hBv.c3 hdd) (At9.c1 (At9.next Hbox.out (below_chain hbk hdd)))
              have hBd := hBv.next hdd
              have hCd := (hCv.next hdd).toV ((hfb.out kk (by omega)).mono (by rw [Hs.out]; exact Nat.le_refl sz)) (by omega)
              have hXd := (G1.out.next hbk).next hdd
              have hfit1 := hid ((hfb.out kk (by omega)).mono (show k + 5 * a ≤ sz by have := Hs.out; omega))
              have hst : Hid (((qm * x ^ m1) * y ^ kk) * y = (qm * x ^ m1) * y ^ (kk + 1)) := hid (by rw [Rat.pow_succ, ← Rat.mul_assoc])
              clear hBv hCv
              go_wp2_with fail
              refine wp_region_D (fun w' => C3 G8 (.bool sv) (.slice vo vn vc) (.slice uo un uc) w' ∧ C3a w.heap.size (.bool s1) (.slice po1 pn1 pc1) (.slice qo1 qn1 qc1) w') [5] (by kernel_rfl) ?_
              refine wpAnyD_take (i := 0) (v := ?_) rfl (by kernel_rfl) (by kernel_rfl) (by kernel_rfl) (by kernel_rfl) (fun _ _ _ h => h) (Or.inl ⟨by rfl, ?_⟩) hS0 ?_
              rotate_left
              · intro w hw; obtain ⟨⟨s1', s2', s3'⟩, s4', s5', s6'⟩ := hw; first | (go_simp; done) | (go_simp; with_reducible rfl)
              refine wpAnyD_take (i := 1) (v := ?_) rfl (by kernel_rfl) (by kernel_rfl) (by kernel_rfl) (by kernel_rfl) (fun _ _ _ h => h) (Or.inl ⟨by rfl, ?_⟩) hS0 ?_
              rotate_left
              · intro w _; first | (go_simp; done) | (go_simp; with_reducible rfl)
              refine wpAnyD_take (i := 2) (v := ?_) rfl (by kernel_rfl) (by kernel_rfl) (by kernel_rfl) (by kernel_rfl) (fun _ _ _ h => h) (Or.inl ⟨by rfl, ?_⟩) hS0 ?_
              rotate_left
              · intro w _; first | (go_simp; done) | (go_simp; with_reducible rfl)
              refine wpAnyD_take (i := 3) (v := ?_) rfl (by kernel_rfl) (by kernel_rfl) (by kernel_rfl) (by kernel_rfl) (fun _ _ _ h => h) (Or.inl ⟨by rfl, ?_⟩) hS0 ?_
              rotate_left
              · intro w hw; obtain ⟨⟨s1', s2', s3'⟩, s4', s5', s6'⟩ := hw; first | (go_simp; done) | (go_simp; with_reducible rfl)
              refine wpAnyD_one (i := 4) (by kernel_rfl) rfl (fun KK hKK => ?_)
              go_simp
              go_at_call 58
              refine (Mul_any _ y _ _ _ hCd hXd sz hfit1.out (Fy.out.mono (Nat.le_trans (by have := Hs.out; omega) (Nat.le_refl sz))) (by omega)).mono ?_; rw [hst.out]; rintro e w6 ⟨v6, rfl, C6, hb6⟩
              obtain ⟨a1, a2, a3, a4, a5, a6, a7, rfl⟩ := C6.shape6
              have hS6 := And.intro (C3.next hS0.1 hb6) (C3x.next1 hS0.2 hb6)
              refine hKK _ _ ⟨fun _ => hS6, ?_⟩; clear hKK KK
              refine wpAnyD_one (i := 5) (by kernel_rfl) rfl (fun KK hKK => ?_)
              have hB6 := hBd.next hb6
              obtain ⟨e0, e1, e2⟩ := hB6.c3
              have f0 := hB6.free 0
              have f1 := hB6.free 1
              have f2 := hB6.free 2
              have hQ6 := hid (hB6.putQ C6)
              go_simp
              refine hKK _ _ ⟨fun hn => absurd (by simp) hn, ?_⟩; clear hKK KK
              refine wpAnyD_done (by kernel_rfl) ?_ _
              go_simp
              go_wp2_with fail
              go_roundw
              case rel => exact ⟨kk + 1, by omega, by go_num, hQ6.out⟩
              case measure => simp [intOf]; omega
            · have hkm : kk = m2 := by omega
              have hlk' : ¬ ((kk : Int) < (m2 : Int)) := by omega
              rw [hkm] at hCv
              have hQn : BkQ W2 G8 (stM qm x y z m1 m2 m3 2) Wk := ⟨_, _, _, _, _, _, _, hBv, hCv⟩
              clear hBv hCv hkm hlk
              go_wp2_with fail
              go_roundw
              case rel => exact ⟨2, by omega, by go_num, hQn⟩
              case measure => simp [intOf]
        · have hQ0 : BkQ W2 G8 ((qm * x ^ m1 * y ^ m2) * z ^ 0) Wj := by rw [Rat.pow_zero, Rat.mul_one]; exact hQ
          have hfb : Hid (∀ j, j ≤ m3 → Fit (k + 5 * a) ((qm * x ^ m1 * y ^ m2) * z ^ j)) := hid (fun j hj => fit_st2 hfm.out Fx.out Fy.out Fz.out (.inl trivial) hj hdeg)
          clear hQ
          go_wp2_with fail
          go_loopw [27] (fun kv wx => ∃ kk : Nat, kk ≤ m3 ∧ kv = .int .i64 kk ∧ BkQ W2 G8 ((qm * x ^ m1 * y ^ m2) * z ^ kk) wx) (fun c _ => (m3 : Nat) - (intOf c).toNat)
          case atStart => exact ⟨0, by omega, rfl, hQ0⟩
          case round =>
            clear hQ0
            obtain ⟨kk, hkk, rfl, sv, vo, vn, vc, uo, un, uc, hBv, hCv⟩ := hrel
            rename World => Wk
            have hbk := below_chain hbel2 hBv.bel
            by_cases hlk : kk < m3
            · have hlk' : (kk : Int) < (m3 : Int) := by omega
              have hdd : Below Wk.heap.size Wk Wk.drew := (Below.refl _ _).drew
              have hS0 := And.intro (C3.next hBv.c3 hdd) (At9.c2 (At9.next Hbox.out (below_chain hbk hdd)))
              have hBd := hBv.next hdd
              have hCd := (hCv.next hdd).toV ((hfb.out kk (by omega)).mono (by rw [Hs.out]; exact Nat.le_refl sz)) (by omega)
              have hXd := (G2.out.next hbk).next hdd
              have hfit1 := hid ((hfb.out kk (by omega)).mono (show k + 5 * a ≤ sz by have := Hs.out; omega))
              have hst : Hid (((qm * x ^ m1 * y ^ m2) * z ^ kk) * z = (qm * x ^ m1 * y ^ m2) * z ^ (kk + 1)) := hid (by rw [Rat.pow_succ, ← Rat.mul_assoc])
              clear hBv hCv
              go_wp2_with fail
              refine wp_region_D (fun w' => C3 G8 (.bool sv) (.slice vo vn vc) (.slice uo un uc) w' ∧ C3b w.heap.size (.bool s2) (.slice po2 pn2 pc2) (.slice qo2 qn2 qc2) w') [5] (by kernel_rfl) ?_
              refine wpAnyD_take (i := 0) (v := ?_) rfl (by kernel_rfl) (by kernel_rfl) (by kernel_rfl) (by kernel_rfl) (fun _ _ _ h => h) (Or.inl ⟨by rfl, ?_⟩) hS0 ?_
              rotate_left
              · intro w hw; obtain ⟨⟨s1', s2', s3'⟩, s4', s5', s6'⟩ := hw; first | (go_simp; done) | (go_simp; with_reducible rfl)
              refine wpAnyD_take (i := 1) (v := ?_) rfl (by kernel_rfl) (by kernel_rfl) (by kernel_rfl) (by kernel_rfl) (fun _ _ _ h => h) (Or.inl ⟨by rfl, ?_⟩) hS0 ?_
              rotate_left
              · intro w _; first | (go_simp; done) | (go_simp; with_reducible rfl)
              refine wpAnyD_take (i := 2) (v := ?_) rfl (by kernel_rfl) (by kernel_rfl) (by kernel_rfl) (by kernel_rfl) (fun _ _ _ h => h) (Or.inl ⟨by rfl, ?_⟩) hS0 ?_
              rotate_left
              · intro w _; first | (go_simp; done) | (go_simp; with_reducible rfl)
              refine wpAnyD_take (i := 3) (v := ?_) rfl (by kernel_rfl) (by kernel_rfl) (by kernel_rfl) (by kernel_rfl) (fun _ _ _ h => h) (Or.inl ⟨by rfl, ?_⟩) hS0 ?_
              rotate_left
              · intro w hw; obtain ⟨⟨s1', s2', s3'⟩, s4', s5', s6'⟩ := hw; first | (go_simp; done) | (go_simp; with_reducible rfl)
              refine wpAnyD_one (i := 4) (by kernel_rfl) rfl (fun KK hKK => ?_)
              go_simp
              go_at_call 58
              refine (Mul_any _ z _ _ _ hCd hXd sz hfit1.out (Fz.out.mono (Nat.le_trans (by have := Hs.out; omega) (Nat.le_refl sz))) (by omega)).mono ?_; rw [hst.out]; rintro e w6 ⟨v6, rfl, C6, hb6⟩
              obtain ⟨a1, a2, a3, a4, a5, a6, a7, rfl⟩ := C6.shape6
              have hS6 := And.intro (C3.next hS0.1 hb6) (C3x.next2 hS0.2 hb6)
              refine hKK _ _ ⟨fun _ => hS6, ?_⟩; clear hKK KK
              refine wpAnyD_one (i := 5) (by kernel_rfl) rfl (fun KK hKK => ?_)
              have hB6 := hBd.next hb6
              obtain ⟨e0, e1, e2⟩ := hB6.c3
              have f0 := hB6.free 0
              have f1 := hB6.free 1
              have f2 := hB6.free 2
              have hQ6 := hid (hB6.putQ C6)
              go_simp
              refine hKK _ _ ⟨fun hn => absurd (by simp) hn, ?_⟩; clear hKK KK
              refine wpAnyD_done (by kernel_rfl) ?_ _
              go_simp
              go_wp2_with fail
              go_roundw
              case rel => exact ⟨kk + 1, by omega, by go_num, hQ6.out⟩
              case measure => simp [intOf]; omega
            · have hkm : kk = m3 := by omega
              have hlk' : ¬ ((kk : Int) < (m3 : Int)) := by omega
              rw [hkm] at hCv
              have hQn : BkQ W2 G8 (stM qm x y z m1 m2 m3 3) Wk := ⟨_, _, _, _, _, _, _, hBv, hCv⟩
              clear hBv hCv hkm hlk
              go_wp2_with fail
              go_roundw
              case rel => exact ⟨3, by omega, by go_num, hQn⟩
              case measure => simp [intOf]
        · obtain ⟨sv, vo, vn, vc, uo, un, uc, hBv, hCv⟩ := hQ
          have hCv' : RatC Wj (.agg #[.bool sv, .slice vo vn vc, .slice uo un uc]) (qm * monE x y z (m1, m2, m3)) := by rw [← stM_end]; exact hCv
          have hB5 := HB2.out.next hBv.bel
          have hC5 := HC2.out.next hBv.bel
          have hfq : Hid (Fit (k + 5 * a) (qm * monE x y z (m1, m2, m3))) := hid (by rw [← stM_end]; exact fit_stM hfm.out Fx.out Fy.out Fz.out hdeg)
          have hCV := hCv'.toV hfq.out (by have := Hs.out; omega)
          have h5V := hC5.toV (hsum.out i) (by omega)
          have hadd := hid (Add_any _ _ _ _ _ h5V hCV (1 + 56 * (sz + 1)) (hsum.out i) (hfq.out.mono (by have := Hs.out; omega)) hk1)
          rw [← hnx.out] at hadd
          obtain ⟨c0, c1, c2⟩ := hB5.c3
          obtain ⟨e0, e1, e2⟩ := hBv.c3
          clear hCv hCv' hC5 hCV h5V
          go_wp2_with fail
          refine hadd.out.mono ?_; rintro e w6 ⟨v6, rfl, C6, hb6⟩
          obtain ⟨a1, a2, a3, a4, a5, a6, a7, rfl⟩ := C6.shape6
          have hB6 := hB5.next hb6
          clear c0 c1 c2 e0 e1 e2
          obtain ⟨c0, c1, c2⟩ := hB6.c3
          have f0 := hB6.free 0
          have f1 := hB6.free 1
          have f2 := hB6.free 2
          have hQ6 := hid (hB6.putQ C6)
          clear hB6 C6 hadd
          go_wp2_with fail
          go_roundw
          case rel => exact ⟨i + 1, by omega, by go_num, hQ6.out⟩
          case measure => simp [intOf]; omega
    · obtain rfl : i = n := by omega
      have hres : Hid (evN x y z ((lst P).take i) = evalP x y z P) := hid (by rw [List.take_of_length_le (by rw [Hn.out]; exact Nat.le_refl _), evN_end])
      rw [hres.out] at hC
      have hR3 := hid (HR.out.next hbel)
      obtain ⟨d0, d1, d2, g0, g1, g2, _, _, _, _⟩ := HR.out.next hbel
      obtain ⟨c0, c1, c2⟩ := hB.c3
      clear hB
      go_wp2_with fail
      refine bodyPost_ret (v := .agg #[.bool s5, .slice ao5 an5 ac5, .slice bo5 bn5 bc5]) (by simp [results, Tryz.results36, go_sem, d0, d1, d2]) rfl ?_
      exact hR3.out.rc hC

set_option maxRecDepth 100000 in
set_option maxHeartbeats 8000000 in
theorem rEvalP_any (P : Pl) (x y z : Rat) (v : Value) (s0 : Bool) (po0 : Option Addr) (pn0 pc0 : Nat) (qo0 : Option Addr) (qn0 qc0 : Nat) (s1 : Bool) (po1 : Option Addr) (pn1 pc1 : Nat) (qo1 : Option Addr) (qn1 qc1 : Nat) (s2 : Bool) (po2 : Option Addr) (pn2 pc2 : Nat) (qo2 : Option Addr) (qn2 qc2 : Nat) (w : World) (h : PolV w v P) (h0 : RatV w (.agg #[.bool s0, .slice po0 pn0 pc0, .slice qo0 qn0 qc0]) x) (h1 : RatV w (.agg #[.bool s1, .slice po1 pn1 pc1, .slice qo1 qn1 qc1]) y) (h2 : RatV w (.agg #[.bool s2, .slice po2 pn2 pc2, .slice qo2 qn2 qc2]) z) (k a : Nat) (hP : FitP k P) (fx : Fit a x) (fy : Fit a y) (fz : Fit a z) (hk : 57 * (k + 5 * a + 1) + 1 ≤ 4294967296) :
    Calls Tryz.prog 37 #[v, .agg #[.bool s0, .slice po0 pn0 pc0, .slice qo0 qn0 qc0, .bool s1, .slice po1 pn1 pc1, .slice qo1 qn1 qc1, .bool s2, .slice po2 pn2 pc2, .slice qo2 qn2 qc2]] w (RatOut w (evalP x y z P)) := by
  obtain ⟨_, _, _, _, rfl, _⟩ := id h
  obtain ⟨n, hn⟩ : ∃ n, (lst P).length = n := ⟨_, rfl⟩
  have hnb : n ≤ 56 := by rw [← hn]; exact len_lst P
  have Hn := hid hn
  have hPk := hid hP
  have Fx := hid fx
  have Fy := hid fy
  have Fz := hid fz
  have hsum := hid (fun i => fit_evN hP fx fy fz i)
  obtain ⟨sz, hs⟩ : ∃ sz, k + 5 * a = sz := ⟨_, rfl⟩
  rw [hs] at hsum hk
  have Hs := hid hs
  have hk1 : 1 + 56 * (sz + 1) ≤ 4294967296 := by omega
  have hks : k ≤ sz := by omega
  have hbox : At9 w.heap.size s0 po0 pn0 pc0 qo0 qn0 qc0 s1 po1 pn1 pc1 qo1 qn1 qc1 s2 po2 pn2 pc2 qo2 qn2 qc2 ((w.alloc (.cells #[.bool s0, .slice po0 pn0 pc0, .slice qo0 qn0 qc0, .bool s1, .slice po1 pn1 pc1, .slice qo1 qn1 qc1, .bool s2, .slice po2 pn2 pc2, .slice qo2 qn2 qc2] 45)).alloc (.cells #[.bool false, .slice none 0 0, .slice none 0 0] 25)) := by
    unfold At9
    simp [go_sem]
  have hR : Res w (w.heap.size + 1) false none 0 0 none 0 0 ((w.alloc (.cells #[.bool s0, .slice po0 pn0 pc0, .slice qo0 qn0 qc0, .bool s1, .slice po1 pn1 pc1, .slice qo1 qn1 qc1, .bool s2, .slice po2 pn2 pc2, .slice qo2 qn2 qc2] 45)).alloc (.cells #[.bool false, .slice none 0 0, .slice none 0 0] 25)) := Res.startAt (below_alloc _) (by simp) _ _ _ _ _ _ _ _
  have hb01 : Below w.heap.size w ((w.alloc (.cells #[.bool s0, .slice po0 pn0 pc0, .slice qo0 qn0 qc0, .bool s1, .slice po1 pn1 pc1, .slice qo1 qn1 qc1, .bool s2, .slice po2 pn2 pc2, .slice qo2 qn2 qc2] 45)).alloc (.cells #[.bool false, .slice none 0 0, .slice none 0 0] 25)) := hR.bel
  have htk := hid (rPTake_any P _ _ (h.next hb01))
  have g0 := h0.next hb01
  have g1 := h1.next hb01
  have g2 := h2.next hb01
  clear h hn hP fx fy fz hs h0 h1 h2
  go_enter Tryz.func37, Tryz.ntmps37
  go_wp2_with fail
  refine htk.out.mono ?_; rintro e W1 ⟨ao, cap, rfl, hP1, hb1⟩
  have hPol : Pol RatC W1 ao n cap ((lst P).map toM) := by unfold PolC at hP1; rw [Hn.out] at hP1; exact hP1
  rw [Hn.out]
  replace hbox := hbox.next hb1
  replace hR := hR.next hb1
  replace hb01 := below_chain hb01 hb1
  replace g0 := g0.next hb1
  replace g1 := g1.next hb1
  replace g2 := g2.next hb1
  have hB5 : Bk W1 W1.heap.size (.bool false) (.slice none 0 0) (.slice none 0 0) (W1.alloc (.cells #[.bool false, .slice none 0 0, .slice none 0 0] 25)) := Bk.start (Below.refl _ _) rfl _ _ _ _
  clear hP1 hb1 htk
  have hQ5 : BkQ W1 W1.heap.size (evN x y z ((lst P).take 0)) (W1.alloc (.cells #[.bool false, .slice none 0 0, .slice none 0 0] 25)) := ⟨_, _, _, _, _, _, _, hB5, by show RatC _ _ 0; exact ratC_zero _⟩
  clear hB5
  obtain ⟨G5, hG5⟩ : ∃ G, W1.heap.size = G := ⟨_, rfl⟩
  rw [hG5] at hQ5
  have HPol := hid hPol
  have HR := hid hR
  have Hbox := hid hbox
  have G0 := hid g0
  have G1 := hid g1
  have G2 := hid g2
  clear hPol hR hbox g0 g1 g2
  go_wp2_with fail
  (try rw [hG5])
  clear hG5
  go_loopw [6] (fun iv wr => ∃ i : Nat, i ≤ n ∧ iv = .int .i64 i ∧ BkQ W1 G5 (evN x y z ((lst P).take i)) wr) (fun i _ => n - (intOf i).toNat)
  case atStart => exact ⟨0, by omega, rfl, hQ5⟩
  case round =>
    clear hQ5
    obtain ⟨i, hi, rfl, s5, ao5, an5, ac5, bo5, bn5, bc5, hB, hC⟩ := hrel
    have hbel := hB.bel
    by_cases hlt : i < n
    · obtain ⟨b, o, m1, m2, m3, qm, s, xo, xn, xc, yo, yn, yc, hgm, hbo, hX, hrm⟩ := HPol.out.atM hlt
      subst hbo
      have hmem := lst_at (List.mem_of_getElem? hgm)
      have hdeg : m1 + m2 + m3 ≤ 5 := hmem.1
      have hfm := hid (hPk.out.mem (List.mem_of_getElem? hgm))
      have hnx := hid (evN_take x y z hgm)
      have HX := hid hX
      have Hrm := hid hrm
      have i0 : (0 : Int) ≤ (i : Int) := by omega
      have i1 : (i : Int) < (n : Int) := by omega
      have d0 := idx0
      have d1 := idx1
      have d2 := idx2
      obtain ⟨⟨x0, x1, x2⟩, x3, x4, x5⟩ := H6.next hX hbel
      clear hgm hmem hX hrm
      have hv8 : Bk wr wr.heap.size (.bool s) (.slice xo xn xc) (.slice yo yn yc) (wr.alloc (.cells #[.bool s, .slice xo xn xc, .slice yo yn yc] 25)) := Bk.start (Below.refl _ _) rfl _ _ _ _
      have hB2 := hB
      have hC2 := hC
      have hbel2 := hbel
      go_wp2_with fail
      clear x0 x1 x2 x3 x4 x5
      obtain ⟨W2, hW2⟩ : ∃ W, wr = W := ⟨_, rfl⟩
      rw [hW2] at hv8 hB2 hC2 hbel2 ⊢
      obtain ⟨G8, hG8⟩ : ∃ G, W2.heap.size = G := ⟨_, rfl⟩
      rw [hG8] at hv8 ⊢
      have hQ8 : BkQ W2 G8 (stM qm x y z m1 m2 m3 0) (W2.alloc (.cells #[.bool s, .slice xo xn xc, .slice yo yn yc] 25)) := ⟨_, _, _, _, _, _, _, hv8, (Hrm.out.next hbel2).next (below_alloc _)⟩
      clear hv8 hW2 hG8
      have HB2 := hid hB2
      have HC2 := hid hC2
      clear hB hC hB2 hC2
      go_loopw [8] (fun jv wx => ∃ jj : Int, (jj = 0 ∨ jj = 1 ∨ jj = 2 ∨ jj = 3) ∧ jv = .int .i64 jj ∧ BkQ W2 G8 (stM qm x y z m1 m2 m3 jj.toNat) wx) (fun j _ => (3 - intOf j).toNat)
      case atStart => exact ⟨0, .inl rfl, rfl, hQ8⟩
      case round =>
        clear hQ8
        obtain ⟨jj, hjj, rfl, hQ⟩ := hrel
        rename World => Wj
        rcases hjj with rfl | rfl | rfl | rfl
        · have hQ0 : BkQ W2 G8 ((qm) * x ^ 0) Wj := by rw [Rat.pow_zero, Rat.mul_one]; exact hQ
          have hfb : Hid (∀ j, j ≤ m1 → Fit (k + 5 * a) ((qm) * x ^ j)) := hid (fun j hj => fit_st0 hfm.out Fx.out (.inl trivial) hj hdeg)
          clear hQ
          go_wp2_with fail
          go_loopw [9] (fun kv wx => ∃ kk : Nat, kk ≤ m1 ∧ kv = .int .i64 kk ∧ BkQ W2 G8 ((qm) * x ^ kk) wx) (fun c _ => (m1 : Nat) - (intOf c).toNat)
          case atStart => exact ⟨0, by omega, rfl, hQ0⟩
          case round =>
            clear hQ0
            obtain ⟨kk, hkk, rfl, sv, vo, vn, vc, uo, un, uc, hBv, hCv⟩ := hrel
            rename World => Wk
            have hbk := below_chain hbel2 hBv.bel
            obtain ⟨⟨x0, x1, x2⟩, x3, x4, x5⟩ := H6.next HX.out hbk
            by_cases hlk : kk < m1
            · have hlk' : (kk : Int) < (m1 : Int) := by omega
              have hdd : Below Wk.heap.size Wk Wk.drew := (Below.refl _ _).drew
              have hS0 := And.intro (C3.next hBv.c3 hdd) (At9.c0 (At9.next Hbox.out (below_chain hbk hdd)))
              have hBd := hBv.next hdd
              have hCd := (hCv.next hdd).toV ((hfb.out kk (by omega)).mono (by rw [Hs.out]; exact Nat.le_refl sz)) (by omega)
              have hXd := (G0.out.next hbk).next hdd
              have hfit1 := hid ((hfb.out kk (by omega)).mono (show k + 5 * a ≤ sz by have := Hs.out; omega))
              have hst : Hid (((qm) * x ^ kk) * x = (qm) * x ^ (kk + 1)) := hid (by rw [Rat.pow_succ, ← Rat.mul_assoc])
              clear hBv hCv
              go_wp2_with fail
              clear x0 x1 x2 x3 x4 x5
              refine wp_region_D (fun w' => C3 G8 (.bool sv) (.slice vo vn vc) (.slice uo un uc) w' ∧ C3 w.heap.size (.bool s0) (.slice po0 pn0 pc0) (.slice qo0 qn0 qc0) w') [5] (by kernel_rfl) ?_
              refine wpAnyD_take (i := 0) (v := ?_) rfl (by kernel_rfl) (by kernel_rfl) (by kernel_rfl) (by kernel_rfl) (fun _ _ _ h => h) (Or.inl ⟨by rfl, ?_⟩) hS0 ?_
              rotate_left
              · intro w hw; obtain ⟨⟨s1', s2', s3'⟩, s4', s5', s6'⟩ := hw; first | (go_simp; done) | (go_simp; with_reducible rfl)
              refine wpAnyD_take (i := 1) (v := ?_) rfl (by kernel_rfl) (by kernel_rfl) (by kernel_rfl) (by kernel_rfl) (fun _ _ _ h => h) (Or.inl ⟨by rfl, ?_⟩) hS0 ?_
              rotate_left
              · intro w _; first | (go_simp; done) | (go_simp; with_reducible rfl)
              refine wpAnyD_take (i := 2) (v := ?_) rfl (by kernel_rfl) (by kernel_rfl) (by kernel_rfl) (by kernel_rfl) (fun _ _ _ h => h) (Or.inl ⟨by rfl, ?_⟩) hS0 ?_
              rotate_left
              · intro w _; first | (go_simp; done) | (go_simp; with_reducible rfl)
              refine wpAnyD_take (i := 3) (v := ?_) rfl (by kernel_rfl) (by kernel_rfl) (by kernel_rfl) (by kernel_rfl) (fun _ _ _ h => h) (Or.inl ⟨by rfl, ?_⟩) hS0 ?_
              rotate_left
              · intro w hw; obtain ⟨⟨s1', s2', s3'⟩, s4', s5', s6'⟩ := hw; first | (go_simp; done) | (go_simp; with_reducible rfl)
              refine wpAnyD_one (i := 4) (by kernel_rfl) rfl (fun KK hKK => ?_)
              go_simp
              go_at_call 41
              refine (rMul_any _ x _ _ _ hCd hXd sz hfit1.out (Fx.out.mono (Nat.le_trans (by have := Hs.out; omega) (Nat.le_refl sz))) (by omega)).mono ?_; rw [hst.out]; rintro e w6 ⟨v6, rfl, C6, hb6⟩
              obtain ⟨a1, a2, a3, a4, a5, a6, a7, rfl⟩ := C6.shape6
              have hS6 := And.intro (C3.next hS0.1 hb6) (C3x.next0 hS0.2 hb6)
              refine hKK _ _ ⟨fun _ => hS6, ?_⟩; clear hKK KK
              refine wpAnyD_one (i := 5) (by kernel_rfl) rfl (fun KK hKK => ?_)
              have hB6 := hBd.next hb6
              obtain ⟨e0, e1, e2⟩ := hB6.c3
              have f0 := hB6.free 0
              have f1 := hB6.free 1
              have f2 := hB6.free 2
              have hQ6 := hid (hB6.putQ C6)
              go_simp
              refine hKK _ _ ⟨fun hn => absurd (by simp) hn, ?_⟩; clear hKK KK
              refine wpAnyD_done (by kernel_rfl) ?_ _
              go_simp
              go_wp2_with fail
              go_roundw
              case rel => exact ⟨kk + 1, by omega, by go_num, hQ6.out⟩
              case measure => simp [intOf]; omega
            · have hkm : kk = m1 := by omega
              have hlk' : ¬ ((kk : Int) < (m1 : Int)) := by omega
              rw [hkm] at hCv
              have hQn : BkQ W2 G8 (stM qm x y z m1 m2 m3 1) Wk := ⟨_, _, _, _, _, _, _, hBv, hCv⟩
              clear hBv hCv hkm hlk
              go_wp2_with fail
              go_roundw
              case rel => exact ⟨1, by omega, by go_num, hQn⟩
              case measure => simp [intOf]
        · have hQ0 : BkQ W2 G8 ((qm * x ^ m1) * y ^ 0) Wj := by rw [Rat.pow_zero, Rat.mul_one]; exact hQ
          have hfb : Hid (∀ j, j ≤ m2 → Fit (k + 5 * a) ((qm * x ^ m1) * y ^ j)) := hid (fun j hj => fit_st1 hfm.out Fx.out Fy.out (.inl trivial) hj hdeg)
          clear hQ
          go_wp2_with fail
          go_loopw [9] (fun kv wx => ∃ kk : Nat, kk ≤ m2 ∧ kv = .int .i64 kk ∧ BkQ W2 G8 ((qm * x ^ m1) * y ^ kk) wx) (fun c _ => (m2 : Nat) - (intOf c).toNat)
          case atStart => exact ⟨0, by omega, rfl, hQ0⟩
          case round =>
            clear hQ0
            obtain ⟨kk, hkk, rfl, sv, vo, vn, vc, uo, un, uc, hBv, hCv⟩ := hrel
            rename World => Wk
            have hbk := below_chain hbel2 hBv.bel
            obtain ⟨⟨x0, x1, x2⟩, x3, x4, x5⟩ := H6.next HX.out hbk
            by_cases hlk : kk < m2
            · have hlk' : (kk : Int) < (m2 : Int) := by omega
              have hdd : Below Wk.heap.size Wk Wk.drew := (Below.refl _ _).drew
              have hS0 := And.intro (C3.next hBv.c3 hdd) (At9.c1 (At9.next Hbox.out (below_chain hbk hdd)))
              have hBd := hBv.next hdd
              have hCd := (hCv.next hdd).toV ((hfb.out kk (by omega)).mono (by rw [Hs.out]; exact Nat.le_refl sz)) (by omega)
              have hXd := (G1.out.next hbk).next hdd
              have hfit1 := hid ((hfb.out kk (by omega)).mono (show k + 5 * a ≤ sz by have := Hs.out; omega))
              have hst : Hid (((qm * x ^ m1) * y ^ kk) * y = (qm * x ^ m1) * y ^ (kk + 1)) := hid (by rw [Rat.pow_succ, ← Rat.mul_assoc])
              clear hBv hCv
              go_wp2_with fail
              clear x0 x1 x2 x3 x4 x5
              refine wp_region_D (fun w' => C3 G8 (.bool sv) (.slice vo vn vc) (.slice uo un uc) w' ∧ C3a w.heap.size (.bool s1) (.slice po1 pn1 pc1) (.slice qo1 qn1 qc1) w') [5] (by kernel_rfl) ?_
              refine wpAnyD_take (i := 0) (v := ?_) rfl (by kernel_rfl) (by kernel_rfl) (by kernel_rfl) (by kernel_rfl) (fun _ _ _ h => h) (Or.inl ⟨by rfl, ?_⟩) hS0 ?_
              rotate_left
              · intro w hw; obtain ⟨⟨s1', s2', s3'⟩, s4', s5', s6'⟩ := hw; first | (go_simp; done) | (go_simp; with_reducible rfl)
              refine wpAnyD_take (i := 1) (v := ?_) rfl (by kernel_rfl) (by kernel_rfl) (by kernel_rfl) (by kernel_rfl) (fun _ _ _ h => h) (Or.inl ⟨by rfl, ?_⟩) hS0 ?_
              rotate_left
              · intro w _; first | (go_simp; done) | (go_simp; with_reducible rfl)
              refine wpAnyD_take (i := 2) (v := ?_) rfl (by kernel_rfl) (by kernel_rfl) (by kernel_rfl) (by kernel_rfl) (fun _ _ _ h => h) (Or.inl ⟨by rfl, ?_⟩) hS0 ?_
              rotate_left
              · intro w _; first | (go_simp; done) | (go_simp; with_reducible rfl)
              refine wpAnyD_take (i := 3) (v := ?_) rfl (by kernel_rfl) (by kernel_rfl) (by kernel_rfl) (by kernel_rfl) (fun _ _ _ h => h) (Or.inl ⟨by rfl, ?_⟩) hS0 ?_
              rotate_left
              · intro w hw; obtain ⟨⟨s1', s2', s3'⟩, s4', s5', s6'⟩ := hw; first | (go_simp; done) | (go_simp; with_reducible rfl)
              refine wpAnyD_one (i := 4) (by kernel_rfl) rfl (fun KK hKK => ?_)
              go_simp
              go_at_call 41
              refine (rMul_any _ y _ _ _ hCd hXd sz hfit1.out (Fy.out.mono (Nat.le_trans (by have := Hs.out; omega) (Nat.le_refl sz))) (by omega)).mono ?_; rw [hst.out]; rintro e w6 ⟨v6, rfl, C6, hb6⟩
              obtain ⟨a1, a2, a3, a4, a5, a6, a7, rfl⟩ := C6.shape6
              have hS6 := And.intro (C3.next hS0.1 hb6) (C3x.next1 hS0.2 hb6)
              refine hKK _ _ ⟨fun _ => hS6, ?_⟩; clear hKK KK
              refine wpAnyD_one (i := 5) (by kernel_rfl) rfl (fun KK hKK => ?_)
              have hB6 := hBd.next hb6
              obtain ⟨e0, e1, e2⟩ := hB6.c3
              have f0 := hB6.free 0
              have f1 := hB6.free 1
              have f2 := hB6.free 2
              have hQ6 := hid (hB6.putQ C6)
              go_simp
              refine hKK _ _ ⟨fun hn => absurd (by simp) hn, ?_⟩; clear hKK KK
              refine wpAnyD_done (by kernel_rfl) ?_ _
              go_simp
              go_wp2_with fail
              go_roundw
              case rel => exact ⟨kk + 1, by omega, by go_num, hQ6.out⟩
              case measure => simp [intOf]; omega
            · have hkm : kk = m2 := by omega
              have hlk' : ¬ ((kk : Int) < (m2 : Int)) := by omega
              rw [hkm] at hCv
              have hQn : BkQ W2 G8 (stM qm x y z m1 m2 m3 2) Wk := ⟨_, _, _, _, _, _, _, hBv, hCv⟩
              clear hBv hCv hkm hlk
              go_wp2_with fail
              go_roundw
              case rel => exact ⟨2, by omega, by go_num, hQn⟩
              case measure => simp [intOf]
        · have hQ0 : BkQ W2 G8 ((qm * x ^ m1 * y ^ m2) * z ^ 0) Wj := by rw [Rat.pow_zero, Rat.mul_one]; exact hQ
          have hfb : Hid (∀ j, j ≤ m3 → Fit (k + 5 * a) ((qm * x ^ m1 * y ^ m2) * z ^ j)) := hid (fun j hj => fit_st2 hfm.out Fx.out Fy.out Fz.out (.inl trivial) hj hdeg)
          clear hQ
          go_wp2_with fail
          go_loopw [9] (fun kv wx => ∃ kk : Nat, kk ≤ m3 ∧ kv = .int .i64 kk ∧ BkQ W2 G8 ((qm * x ^ m1 * y ^ m2) * z ^ kk) wx) (fun c _ => (m3 : Nat) - (intOf c).toNat)
          case atStart => exact ⟨0, by omega, rfl, hQ0⟩
          case round =>
            clear hQ0
            obtain ⟨kk, hkk, rfl, sv, vo, vn, vc, uo, un, uc, hBv, hCv⟩ := hrel
            rename World => Wk
            have hbk := below_chain hbel2 hBv.bel
            obtain ⟨⟨x0, x1, x2⟩, x3, x4, x5⟩ := H6.next HX.out hbk
            by_cases hlk : kk < m3
            · have hlk' : (kk : Int) < (m3 : Int) := by omega
              have hdd : Below Wk.heap.size Wk Wk.drew := (Below.refl _ _).drew
              have hS0 := And.intro (C3.next hBv.c3 hdd) (At9.c2 (At9.next Hbox.out (below_chain hbk hdd)))
              have hBd := hBv.next hdd
              have hCd := (hCv.next hdd).toV ((hfb.out kk (by omega)).mono (by rw [Hs.out]; exact Nat.le_refl sz)) (by omega)
              have hXd := (G2.out.next hbk).next hdd
              have hfit1 := hid ((hfb.out kk (by omega)).mono (show k + 5 * a ≤ sz by have := Hs.out; omega))
              have hst : Hid (((qm * x ^ m1 * y ^ m2) * z ^ kk) * z = (qm * x ^ m1 * y ^ m2) * z ^ (kk + 1)) := hid (by rw [Rat.pow_succ, ← Rat.mul_assoc])
              clear hBv hCv
              go_wp2_with fail
              clear x0 x1 x2 x3 x4 x5
              refine wp_region_D (fun w' => C3 G8 (.bool sv) (.slice vo vn vc) (.slice uo un uc) w' ∧ C3b w.heap.size (.bool s2) (.slice po2 pn2 pc2) (.slice qo2 qn2 qc2) w') [5] (by kernel_rfl) ?_
              refine wpAnyD_take (i := 0) (v := ?_) rfl (by kernel_rfl) (by kernel_rfl) (by kernel_rfl) (by kernel_rfl) (fun _ _ _ h => h) (Or.inl ⟨by rfl, ?_⟩) hS0 ?_
              rotate_left
              · intro w hw; obtain ⟨⟨s1', s2', s3'⟩, s4', s5', s6'⟩ := hw; first | (go_simp; done) | (go_simp; with_reducible rfl)
              refine wpAnyD_take (i := 1) (v := ?_) rfl (by kernel_rfl) (by kernel_rfl) (by kernel_rfl) (by kernel_rfl) (fun _ _ _ h => h) (Or.inl ⟨by rfl, ?_⟩) hS0 ?_
              rotate_left
              · intro w _; first | (go_simp; done) | (go_simp; with_reducible rfl)
              refine wpAnyD_take (i := 2) (v := ?_) rfl (by kernel_rfl) (by kernel_rfl) (by kernel_rfl) (by kernel_rfl) (fun _ _ _ h => h) (Or.inl ⟨by rfl, ?_⟩) hS0 ?_
              rotate_left
              · intro w _; first | (go_simp; done) | (go_simp; with_reducible rfl)
              refine wpAnyD_take (i := 3) (v := ?_) rfl (by kernel_rfl) (by kernel_rfl) (by kernel_rfl) (by kernel_rfl) (fun _ _ _ h => h) (Or.inl ⟨by rfl, ?_⟩) hS0 ?_
              rotate_left
              · intro w hw; obtain ⟨⟨s1', s2', s3'⟩, s4', s5', s6'⟩ := hw; first | (go_simp; done) | (go_simp; with_reducible rfl)
              refine wpAnyD_one (i := 4) (by kernel_rfl) rfl (fun KK hKK => ?_)
              go_simp
              go_at_call 41
              refine (rMul_any _ z _ _ _ hCd hXd sz hfit1.out (Fz.out.mono (Nat.le_trans (by have := Hs.out; omega) (Nat.le_refl sz))) (by omega)).mono ?_; rw [hst.out]; rintro e w6 ⟨v6, rfl, C6, hb6⟩
              obtain ⟨a1, a2, a3, a4, a5, a6, a7, rfl⟩ := C6.shape6
              have hS6 := And.intro (C3.next hS0.1 hb6) (C3x.next2 hS0.2 hb6)
              refine hKK _ _ ⟨fun _ => hS6, ?_⟩; clear hKK KK
              refine wpAnyD_one (i := 5) (by kernel_rfl) rfl (fun KK hKK => ?_)
              have hB6 := hBd.next hb6
              obtain ⟨e0, e1, e2⟩ := hB6.c3
              have f0 := hB6.free 0
              have f1 := hB6.free 1
              have f2 := hB6.free 2
              have hQ6 := hid (hB6.putQ C6)
              go_simp
              refine hKK _ _ ⟨fun hn => absurd (by simp) hn, ?_⟩; clear hKK KK
              refine wpAnyD_done (by kernel_rfl) ?_ _
              go_simp
              go_wp2_with fail
              go_roundw
              case rel => exact ⟨kk + 1, by omega, by go_num, hQ6.out⟩
              case measure => simp [intOf]; omega
            · have hkm : kk = m3 := by omega
              have hlk' : ¬ ((kk : Int) < (m3 : Int)) := by omega
              rw [hkm] at hCv
              have hQn : BkQ W2 G8 (stM qm x y z m1 m2 m3 3) Wk := ⟨_, _, _, _, _, _, _, hBv, hCv⟩
              clear hBv hCv hkm hlk
              go_wp2_with fail
              go_roundw
              case rel => exact ⟨3, by omega, by go_num, hQn⟩
              case measure => simp [intOf]
        · obtain ⟨sv, vo, vn, vc, uo, un, uc, hBv, hCv⟩ := hQ
          have hCv' : RatC Wj (.agg #[.bool sv, .slice vo vn vc, .slice uo un uc]) (qm * monE x y z (m1, m2, m3)) := by rw [← stM_end]; exact hCv
          have hB5 := HB2.out.next hBv.bel
          have hC5 := HC2.out.next hBv.bel
          have hfq : Hid (Fit (k + 5 * a) (qm * monE x y z (m1, m2, m3))) := hid (by rw [← stM_end]; exact fit_stM hfm.out Fx.out Fy.out Fz.out hdeg)
          have hCV := hCv'.toV hfq.out (by have := Hs.out; omega)
          have h5V := hC5.toV (hsum.out i) (by omega)
          have hadd := hid (rAdd_any _ _ _ _ _ h5V hCV (1 + 56 * (sz + 1)) (hsum.out i) (hfq.out.mono (by have := Hs.out; omega)) hk1)
          rw [← hnx.out] at hadd
          obtain ⟨c0, c1, c2⟩ := hB5.c3
          obtain ⟨e0, e1, e2⟩ := hBv.c3
          clear hCv hCv' hC5 hCV h5V
          go_wp2_with fail
          refine hadd.out.mono ?_; rintro e w6 ⟨v6, rfl, C6, hb6⟩
          obtain ⟨a1, a2, a3, a4, a5, a6, a7, rfl⟩ := C6.shape6
          have hB6 := hB5.next hb6
          clear c0 c1 c2 e0 e1 e2
          obtain ⟨c0, c1, c2⟩ := hB6.c3
          have f0 := hB6.free 0
          have f1 := hB6.free 1
          have f2 := hB6.free 2
          have hQ6 := hid (hB6.putQ C6)
          clear hB6 C6 hadd
          go_wp2_with fail
          go_roundw
          case rel => exact ⟨i + 1, by omega, by go_num, hQ6.out⟩
          case measure => simp [intOf]; omega
    · obtain rfl : i = n := by omega
      have hres : Hid (evN x y z ((lst P).take i) = evalP x y z P) := hid (by rw [List.take_of_length_le (by rw [Hn.out]; exact Nat.le_refl _), evN_end])
      rw [hres.out] at hC
      have hR3 := hid (HR.out.next hbel)
      obtain ⟨d0, d1, d2, g0, g1, g2, _, _, _, _⟩ := HR.out.next hbel
      obtain ⟨c0, c1, c2⟩ := hB.c3
      clear hB
      go_wp2_with fail
      refine bodyPost_ret (v := .agg #[.bool s5, .slice ao5 an5 ac5, .slice bo5 bn5 bc5]) (by simp [results, Tryz.results37, go_sem, d0, d1, d2]) rfl ?_
      exact hR3.out.rc hC
end Go.Proofs.YtgohfieleckmgaaGreatDoor
