/-
  Joined out of XRatF, XRatG, XRatH, XBlk, XRatI.
-/
import Derived.Test.YtgohfieleckmgaaGreatDoorRatX
import Derived.Test.YtgohfieleckmgaaGreatDoorRefA
import Derived.Deep.DeepCutAuto
import Derived.Deep.RegionLaw

/-
  The contracts of rational.Neg, Sign, Compare. No condition but sizes.
-/
namespace Go.Proofs.YtgohfieleckmgaaGreatDoor
open Go.RowKit
set_option linter.unusedSimpArgs false
set_option linter.unusedVariables false

set_option maxHeartbeats 1000000 in
theorem Neg_any (q : Rat) (v : Value) (w : World) (h : RatV w v q) (k : Nat) (hq : Fit k q) (hk : k ≤ 4294967296) :
    Calls Tryz.prog 67 #[v] w (RatOut w (-q)) := by
  obtain ⟨s, ao, n, cap, bo, m, cap', rfl⟩ := h.shape
  have hr := Res.start ((Below.refl w.heap.size w).alloc (Nat.le_refl _) (.cells #[.bool s, .slice ao n cap, .slice bo m cap'] 25)) false none 0 0 none 0 0 25
  simp only [World.size_alloc] at hr
  obtain ⟨hq1, hq2⟩ := hq
  go_enter Tryz.func67, Tryz.ntmps67
  go_wp2_with fail
  refine (of_any q _ _ (h.next hr.bel)).mono ?_; rintro e w1 ⟨f1, rfl, F1, hb1⟩
  have hr1 := hr.next hb1
  go_wp2_with fail
  refine (negative_any _ _ _ _ _ F1).mono ?_; rintro e w2 ⟨f2, rfl, F2, hb2⟩
  have hr2 := hr1.next hb2
  go_wp2_with fail
  refine (rat_any _ _ _ _ _ F2 (by omega) (by omega)).mono ?_; rintro e w3 ⟨v3, rfl, C3, hb3⟩
  obtain ⟨rb, ro, rn, rc, so, sn, sc, rfl⟩ := C3.shape
  have hr3 := hr2.next hb3
  obtain ⟨d0, d1, d2, g0, g1, g2, _, _, _, _⟩ := hr2.next hb3
  go_wp2_with fail
  refine bodyPost_ret (v := .agg #[.bool rb, .slice ro rn rc, .slice so sn sc]) (by simp [results, Tryz.results67, go_sem, d0, d1, d2]) rfl ?_
  have := hr3.rc C3
  rw [sgn_not, sgn_num, ← Rat.neg_mkRat, Rat.mkRat_self] at this
  exact this

/-- The sign of a rational. -/
def rsg (q : Rat) : Int := sg q.num

set_option maxHeartbeats 1000000 in
theorem Sign_any (q : Rat) (v : Value) (w : World) (h : RatV w v q) :
    Calls Tryz.prog 87 #[v] w fun e w' => e = .returned (.int .i64 (rsg q)) ∧ Below w.heap.size w w' := by
  obtain ⟨s, ao, n, cap, bo, m, cap', rfl⟩ := h.shape
  have hb0 := below_alloc (w := w) (.cells #[.bool s, .slice ao n cap, .slice bo m cap'] 25)
  go_enter Tryz.func87, Tryz.ntmps87
  go_wp2_with fail
  refine (of_any q _ _ (h.next hb0)).mono ?_; rintro e w1 ⟨f1, rfl, ⟨fo, go, fn, fc, gn, gc, rfl, sf, sg', hzf, hzg, hd0⟩, hb1⟩
  have hbel : Below w.heap.size w w1 := below_chain hb0 hb1
  have hl := sf.lenU
  have hbel2 := fun o => hbel.alloc hbel.size o
  rcases Int.lt_trichotomy q.num 0 with hlt | heq | hgt
  · have hr : rsg q = -1 := by unfold rsg sg; rw [if_pos hlt]
    have hd : decide (q.num < 0) = true := decide_eq_true hlt
    have hf : 1 ≤ fn := by
      cases fn with
      | zero => exact absurd (List.eq_nil_of_length_eq_zero hl) (fun h => by have := dig_nil.1 h; omega)
      | succ n => omega
    have Hl := hid hl; clear hl
    rw [hd]
    have Hr := hid hr
    clear hr hd hlt
    go_wp2_with fail
    go_ret
    exact ⟨retI Hr.out.symm, hbel2 _⟩
  · have hr : rsg q = 0 := by unfold rsg sg; rw [heq]; rfl
    have hd : decide (q.num < 0) = false := by rw [heq]; rfl
    rw [heq, show Int.natAbs 0 = 0 from rfl, dig_zero] at hl
    have hf : fn = 0 := by simpa using hl.symm
    subst hf
    rw [hd]
    have Hr := hid hr
    clear hr hd heq hl
    go_wp2_with fail
    go_ret
    exact ⟨retI Hr.out.symm, hbel2 _⟩
  · have hr : rsg q = 1 := by unfold rsg sg; rw [if_neg (by omega), if_neg (by omega)]
    have hd : decide (q.num < 0) = false := decide_eq_false (by omega)
    have hf : 1 ≤ fn := by
      cases fn with
      | zero => exact absurd (List.eq_nil_of_length_eq_zero hl) (fun h => by have := dig_nil.1 h; omega)
      | succ n => omega
    have Hl := hid hl; clear hl
    rw [hd]
    have Hr := hid hr
    clear hr hd hgt
    go_wp2_with fail
    go_ret
    exact ⟨retI Hr.out.symm, hbel2 _⟩

set_option maxHeartbeats 1000000 in
theorem Compare_any (q r : Rat) (v v2 : Value) (w : World) (h : RatV w v q) (h' : RatV w v2 r) (k : Nat) (hq : Fit k q) (hr' : Fit k r) (hk : k ≤ 4294967296) :
    Calls Tryz.prog 62 #[v, v2] w fun e w' => e = .returned (.int .i64 (rsg (q - r))) ∧ Below w.heap.size w w' := by
  obtain ⟨s, ao, n, cap, bo, m, cap', rfl⟩ := h.shape
  obtain ⟨t, co, n2, cap2, eo, m2, cap3, rfl⟩ := h'.shape
  have hb0 := ((Below.refl w.heap.size w).alloc (Nat.le_refl _) (.cells #[.bool s, .slice ao n cap, .slice bo m cap'] 25)).alloc (by simp) (.cells #[.bool t, .slice co n2 cap2, .slice eo m2 cap3] 25)
  have hs := fit_sub hq hr'
  go_enter Tryz.func62, Tryz.ntmps62
  go_wp2_with fail
  refine (Sub_any q r _ _ _ (h.next hb0) (h'.next hb0) k hq hr' hk).mono ?_; rintro e w1 ⟨v1, rfl, C1, hb1⟩
  have hbel := below_chain hb0 hb1
  go_wp2_with fail
  refine (Sign_any _ _ _ (C1.toV hs (by omega))).mono ?_; rintro e w2 ⟨rfl, hb2⟩
  have hbel2 := below_chain hbel hb2
  go_wp2_with fail
  go_ret
  exact ⟨rfl, hbel2⟩

end Go.Proofs.YtgohfieleckmgaaGreatDoor

/-
  The contracts of rational.whole and Make. No condition.
-/
namespace Go.Proofs.YtgohfieleckmgaaGreatDoor
open Go.RowKit
set_option linter.unusedSimpArgs false
set_option linter.unusedVariables false

/-- A sign and a number. -/
def WholeOut (w : World) (v : Int) (e : Ending) (w' : World) : Prop :=
  ∃ ao k cap, e = .returned (.tuple #[.bool (decide (v < 0)), .slice ao k cap]) ∧ Sl w' ao k cap (u32s (dig v.natAbs)) ∧ (ao = none → cap = 0) ∧ Below w.heap.size w w'

theorem WholeOut.of {w w' : World} {v : Int} {ao : Option Addr} {k cap : Nat} {b : Bool} (hb : b = decide (v < 0)) (h : NumOut w v.natAbs (.returned (.slice ao k cap)) w') : WholeOut w v (.returned (.tuple #[.bool b, .slice ao k cap])) w' := by
  obtain ⟨ao', k', cap', he, h1, h2, h3, _⟩ := h
  injection he with he
  injection he with e1 e2 e3
  subst e1 e2 e3 hb
  exact ⟨_, _, _, rfl, h1, h2, h3⟩

set_option maxHeartbeats 1000000 in
theorem whole_any (v : Int) (h1 : -9223372036854775808 ≤ v) (h2 : v ≤ 9223372036854775807) (w : World) :
    Calls Tryz.prog 138 #[.int .i64 v] w (WholeOut w v) := by
  obtain ⟨N, hN⟩ : ∃ N : Nat, (v.natAbs : Int) = N := ⟨_, rfl⟩
  obtain ⟨x, hx⟩ : ∃ x : Nat, (N : Int) % 4294967296 = x := ⟨N % 4294967296, rfl⟩
  obtain ⟨y, hy⟩ : ∃ y : Nat, (N : Int) / 4294967296 = y := ⟨N / 4294967296, rfl⟩
  have hxb : x < 4294967296 := by omega
  have hyb : y < 4294967296 := by omega
  have hNb : N ≤ 9223372036854775808 := by omega
  obtain ⟨s1, hl, hv2⟩ := two_limbs (w := w) x y hxb hyb
  have hres : Hid (val [x, y] = v.natAbs) := hid (by rw [hv2]; omega)
  clear hv2
  have hown : (w.alloc (.cells #[.int .u32 (x : Int), .int .u32 (y : Int)] 102)).ownsRow w.heap.size 102 1 (.slice (some ⟨w.heap.size, 0, none⟩) 2 2) 2 (u32s [x, y]) :=
    World.ownsRow_lit w #[.int .u32 (x : Int), .int .u32 (y : Int)] 2 (Nat.le_refl _) (by decide) rfl
  by_cases h : v < 0
  · have e1 : IntKind.u64.wrap v = v + 18446744073709551616 := by rw [wrapU]; omega
    have e2 : IntKind.u64.wrap (-(v + 18446744073709551616)) = (N : Int) := by rw [wrapU]; omega
    have hvd : Hid (true = decide (v < 0)) := hid (decide_eq_true h).symm
    clear hN
    go_enter Tryz.func138, Tryz.ntmps138
    go_wp2_with fail
    refine (clean_any [x, y] _ _ _ _ s1).mono ?_; rintro e w2 ⟨⟨k', rfl, hk', hs'⟩, rfl⟩
    have Hs' := hid hs'; clear hs'
    go_wp2_with fail
    go_ret2
    exact WholeOut.of hvd.out (NumOut.ofOwn hown hl hres.out hk' Hs'.out (below_alloc _))
  · have hvN : v = (N : Int) := by omega
    subst hvN
    have hvd : Hid (false = decide ((N : Int) < 0)) := hid (decide_eq_false h).symm
    clear hN
    go_enter Tryz.func138, Tryz.ntmps138
    go_wp2_with fail
    refine (clean_any [x, y] _ _ _ _ s1).mono ?_; rintro e w2 ⟨⟨k', rfl, hk', hs'⟩, rfl⟩
    have Hs' := hid hs'; clear hs'
    go_wp2_with fail
    go_ret2
    exact WholeOut.of hvd.out (NumOut.ofOwn hown hl hres.out hk' Hs'.out (below_alloc _))

/-- A rational and an error code. -/
def RatOut2 (w : World) (q : Rat) (c : Int) (e : Ending) (w' : World) : Prop := ∃ v, e = .returned (.tuple #[v, .int .i64 c]) ∧ RatC w' v q ∧ Below w.heap.size w w'

theorem RatOut.two {w w' : World} {q : Rat} {v : Value} (c : Int) (h : RatOut w q (.returned v) w') : RatOut2 w q c (.returned (.tuple #[v, .int .i64 c])) w' := by
  obtain ⟨v', he, h1, h2⟩ := h
  injection he with he
  subst he
  exact ⟨_, rfl, h1, h2⟩

theorem lim_abs {v : Int} (h1 : -9223372036854775808 ≤ v) (h2 : v ≤ 9223372036854775807) : lim v.natAbs ≤ 2 := lim_small2 (by omega)

theorem mk_sign (a b : Int) : mkRat (sgn (decide (a < 0) != decide (b < 0)) a.natAbs) b.natAbs = (a : Rat) / (b : Rat) := by
  rw [← Rat.divInt_eq_div]
  by_cases hb : b < 0
  · obtain ⟨n, rfl⟩ := Int.eq_negSucc_of_lt_zero hb
    rw [← Rat.neg_divInt_neg, Int.neg_negSucc]
    have : ((n.succ : Nat) : Int) = ((Int.negSucc n).natAbs : Int) := rfl
    rw [this, Rat.divInt_ofNat]
    congr 1
    rw [decide_eq_true hb, show (decide (a < 0) != true) = !decide (a < 0) by cases decide (a < 0) <;> rfl, sgn_not]
    congr 1
    unfold sgn
    by_cases ha : a < 0
    · rw [decide_eq_true ha, if_pos rfl]; omega
    · rw [decide_eq_false ha]; simp; omega
  · obtain ⟨n, rfl⟩ := Int.eq_ofNat_of_zero_le (show 0 ≤ b by omega)
    rw [Rat.divInt_ofNat, Int.natAbs_natCast]
    congr 1
    rw [decide_eq_false hb, show (decide (a < 0) != false) = decide (a < 0) by cases decide (a < 0) <;> rfl]
    unfold sgn
    by_cases ha : a < 0
    · rw [decide_eq_true ha, if_pos rfl]; omega
    · rw [decide_eq_false ha]; simp; omega

/-- What Make returns. -/
def makeErr (d : Int) : Int := if d = 0 then 11 else 0
def makeRat (a d : Int) : Rat := if d = 0 then 0 else (a : Rat) / (d : Rat)

set_option maxHeartbeats 1000000 in
theorem Make_any (a d : Int) (h1 : -9223372036854775808 ≤ a) (h2 : a ≤ 9223372036854775807) (h3 : -9223372036854775808 ≤ d) (h4 : d ≤ 9223372036854775807) (w : World) :
    Calls Tryz.prog 104 #[.int .i64 a, .int .i64 d] w (RatOut2 w (makeRat a d) (makeErr d)) := by
  by_cases hd : d = 0
  · subst hd
    have e1 : makeErr 0 = 11 := rfl
    have e2 : makeRat a 0 = 0 := rfl
    rw [e1, e2]
    clear e1 e2
    go_enter Tryz.func104, Tryz.ntmps104
    go_wp2_with fail
    refine bodyPost_ret (v := .tuple #[.agg #[.bool false, .slice none 0 0, .slice none 0 0], .int .i64 11]) (by simp [results, Tryz.results104, go_sem]) rfl ?_
    exact ⟨_, rfl, ratC_zero _, below_alloc _⟩
  · have e1 : makeErr d = 0 := if_neg hd
    have e2 : makeRat a d = mkRat (sgn (decide (a < 0) != decide (d < 0)) a.natAbs) d.natAbs := by rw [mk_sign]; exact if_neg hd
    have hd' : (d == 0) = false := by simpa using hd
    rw [e1, e2]
    have hr := Res.start (Below.refl w.heap.size w) false none 0 0 none 0 0 25
    clear e1 e2
    have la := lim_abs h1 h2
    have ld := lim_abs h3 h4
    have hd0 : d.natAbs ≠ 0 := by omega
    go_enter Tryz.func104, Tryz.ntmps104
    go_wp2_with fail
    refine (whole_any a h1 h2 _).mono ?_; rintro e w1 ⟨ao, n, cap, rfl, sA, hzA, hb1⟩
    have hr1 := hr.next hb1
    go_wp2_with fail
    refine (whole_any d h3 h4 _).mono ?_; rintro e w2 ⟨bo, m, cap', rfl, sB, hzB, hb2⟩
    have hr2 := hr1.next hb2
    have sA2 := sA.next hb2
    generalize decide (a < 0) = s at *
    generalize decide (d < 0) = t at *
    go_wp2_with fail
    refine (rat_any (s != t) a.natAbs d.natAbs _ _ ⟨ao, bo, n, cap, m, cap', rfl, sA2, sB, hzA, hzB, hd0⟩ (by omega) (by omega)).mono ?_; rintro e w3 ⟨v3, rfl, C3, hb3⟩
    obtain ⟨rb, ro, rn, rc, so, sn, sc, rfl⟩ := C3.shape
    have hr3 := hr2.next hb3
    obtain ⟨d0, d1, d2, g0, g1, g2, _, _, _, _⟩ := hr2.next hb3
    go_wp2_with fail
    refine bodyPost_ret (v := .tuple #[.agg #[.bool rb, .slice ro rn rc, .slice so sn sc], .int .i64 0]) (by simp [results, Tryz.results104, go_sem, d0, d1, d2]) rfl ?_
    exact (hr3.rc C3).two 0

end Go.Proofs.YtgohfieleckmgaaGreatDoor

/-
  The contract of rational.Mul. No condition but sizes.
-/
namespace Go.Proofs.YtgohfieleckmgaaGreatDoor
open Go.RowKit
set_option linter.unusedSimpArgs false
set_option linter.unusedVariables false

section
variable {w : World} {G g : Nat} {b0 : Bool} {a1 a2 : Option Addr} {n1 n2 k1 k2 : Nat} {w' w'' : World}
theorem frozen_set3 {B i : Nat} (x y z : Value) : (((w.setCell ⟨G, 0, none⟩ x).setCell ⟨G, 1, none⟩ y).setCell ⟨G, 2, none⟩ z).frozen? ⟨B, i, none⟩ = w.frozen? ⟨B, i, none⟩ := by simp [go_sem]

theorem size_set3 (x y z : Value) : (((w.setCell ⟨G, 0, none⟩ x).setCell ⟨G, 1, none⟩ y).setCell ⟨G, 2, none⟩ z).heap.size = w.heap.size := by simp [go_sem]

theorem Res.other (h : Res w G b0 a1 n1 k1 a2 n2 k2 w') (hg : g ≠ G) (hw : w.heap.size ≤ g) (x y z : Value) : Res w G b0 a1 n1 k1 a2 n2 k2 (((w'.setCell ⟨g, 0, none⟩ x).setCell ⟨g, 1, none⟩ y).setCell ⟨g, 2, none⟩ z) :=
  ⟨(cell_set3 hg x y z).trans h.d0, (cell_set3 hg x y z).trans h.d1, (cell_set3 hg x y z).trans h.d2, (frozen_set3 x y z).trans h.g0, (frozen_set3 x y z).trans h.g1, (frozen_set3 x y z).trans h.g2, by rw [size_set3]; exact h.hz, h.hG, below_set3 h.bel hw x y z,
    fun i v hv => h.far i v (by rw [← cell_set3 hg x y z]; exact hv)⟩

theorem Res.startAt {W : World} (hb : Below w.heap.size w W) (hG : G = W.heap.size) (b0 : Bool) (a1 : Option Addr) (n1 k1 : Nat) (a2 : Option Addr) (n2 k2 : Nat) (T : TypeId) : Res w G b0 a1 n1 k1 a2 n2 k2 (W.alloc (.cells #[.bool b0, .slice a1 n1 k1, .slice a2 n2 k2] T)) := by
  subst hG; exact Res.start hb _ _ _ _ _ _ _ _

/-- Three cells that are stored are there. -/
theorem Res.box (h : Res w g b0 a1 n1 k1 a2 n2 k2 w') (x y z : Value) : Box g x y z (((w'.setCell ⟨g, 0, none⟩ x).setCell ⟨g, 1, none⟩ y).setCell ⟨g, 2, none⟩ z) := by
  obtain ⟨d0, d1, d2, _⟩ := h
  exact ⟨by simp [go_sem, d0, d1, d2], by simp [go_sem, d0, d1, d2], by simp [go_sem, d0, d1, d2]⟩
theorem Box.other {B : Nat} {x y z : Value} (h : Box B x y z w') (hg : g ≠ B) (x' y' z' : Value) : Box B x y z (((w'.setCell ⟨g, 0, none⟩ x').setCell ⟨g, 1, none⟩ y').setCell ⟨g, 2, none⟩ z') :=
  ⟨(cell_set3 hg _ _ _).trans h.c0, (cell_set3 hg _ _ _).trans h.c1, (cell_set3 hg _ _ _).trans h.c2⟩

theorem FrV.set3 {v : Value} {s : Bool} {a b : Nat} (h : FrV w' v s a b) (hr : Res w g b0 a1 n1 k1 a2 n2 k2 w') (x y z : Value) : FrV (((w'.setCell ⟨g, 0, none⟩ x).setCell ⟨g, 1, none⟩ y).setCell ⟨g, 2, none⟩ z) v s a b := by
  obtain ⟨ao, bo, n, cap, m, cap', rfl, h1, h2, hz, hz', hb⟩ := h
  exact ⟨ao, bo, n, cap, m, cap', rfl, h1.set3 (hr.off h1) _ _ _, h2.set3 (hr.off h2) _ _ _, hz, hz', hb⟩

theorem FrV.parts {t s : Bool} {ao bo : Option Addr} {n cap m cap' a b : Nat} (h : FrV w' (.agg #[.bool t, .slice ao n cap, .slice bo m cap']) s a b) :
    Sl w' ao n cap (u32s (dig a)) ∧ Sl w' bo m cap' (u32s (dig b)) ∧ (ao = none → cap = 0) ∧ (bo = none → cap' = 0) ∧ b ≠ 0 := by
  obtain ⟨ao', bo', n', cap1, m', cap2, hv, h⟩ := h
  injection hv with hv
  injection hv with hv
  injection hv with e1 hv
  injection hv with e2 hv
  injection hv with e3 _
  injection e2 with e4 e5 e6
  injection e3 with e7 e8 e9
  subst e4 e5 e6 e7 e8 e9
  exact h
theorem FrV.new {v : Value} {s : Bool} {a b : Nat} (h : FrV w' v s a b) (o : Obj) : FrV (w'.alloc o) v s a b := h.next (below_alloc o)
theorem Res.new (h : Res w G b0 a1 n1 k1 a2 n2 k2 w') (o : Obj) : Res w G b0 a1 n1 k1 a2 n2 k2 (w'.alloc o) := h.next (below_alloc o)
theorem Res.drew (h : Res w G b0 a1 n1 k1 a2 n2 k2 w') : Res w G b0 a1 n1 k1 a2 n2 k2 w'.drew := h.next (Below.refl _ _).drew
theorem FrV.shape {v : Value} {s : Bool} {a b : Nat} (h : FrV w' v s a b) : ∃ (ao : Option Addr) (n cap : Nat) (bo : Option Addr) (m cap' : Nat), v = .agg #[.bool s, .slice ao n cap, .slice bo m cap'] := by
  obtain ⟨ao, bo, n, cap, m, cap', rfl, _⟩ := h
  exact ⟨_, _, _, _, _, _, rfl⟩

/-- Three cells of block B. -/
abbrev C3 (B : Nat) (x y z : Value) (w : World) : Prop := w.cell? ⟨B, 0, none⟩ = some x ∧ w.cell? ⟨B, 1, none⟩ = some y ∧ w.cell? ⟨B, 2, none⟩ = some z
theorem C3.next {B : Nat} {x y z : Value} {w w' : World} (h : C3 B x y z w) (hb : Below w.heap.size w w') : C3 B x y z w' := ⟨cell_later hb h.1, cell_later hb h.2.1, cell_later hb h.2.2⟩
theorem C3.set3 {B G : Nat} {x y z : Value} {w : World} (h : C3 B x y z w) (hG : G ≠ B) (x' y' z' : Value) : C3 B x y z (((w.setCell ⟨G, 0, none⟩ x').setCell ⟨G, 1, none⟩ y').setCell ⟨G, 2, none⟩ z') :=
  ⟨(cell_set3 hG _ _ _).trans h.1, (cell_set3 hG _ _ _).trans h.2.1, (cell_set3 hG _ _ _).trans h.2.2⟩

theorem below_new {w X : World} (h : Below w.heap.size w X) (o : Obj) : Below w.heap.size w (X.alloc o) := below_chain h (below_alloc o)

section
variable {B g : Nat} {x y z : Value} {b0 : Bool} {a1 a2 : Option Addr} {n1 n2 k1 k2 : Nat} {w w' : World}
theorem C3.new (h : C3 B x y z w) (o : Obj) : C3 B x y z (w.alloc o) := h.next (below_alloc o)
theorem C3.here (w : World) (T : TypeId) (hB : B = w.heap.size) : C3 B x y z (w.alloc (.cells #[x, y, z] T)) := by subst hB; exact ⟨by simp [go_sem], by simp [go_sem], by simp [go_sem]⟩
theorem C3.stored (h : Res w g b0 a1 n1 k1 a2 n2 k2 w') (x y z : Value) : C3 g x y z (((w'.setCell ⟨g, 0, none⟩ x).setCell ⟨g, 1, none⟩ y).setCell ⟨g, 2, none⟩ z) :=
  have k := h.box x y z
  ⟨k.1, k.2, k.3⟩
end

/-- Two fractions stand in memory, and a result's cells. -/
def TwoFr (w : World) (G : Nat) (s : Bool) (a b : Nat) (t : Bool) (c d : Nat) (p5 p6 : Value) (wx : World) : Prop :=
  ∃ (g h : Nat) (ao : Option Addr) (n cap : Nat) (bo : Option Addr) (m cap' : Nat) (co : Option Addr) (n2 cap2 : Nat) (eo : Option Addr) (m2 cap3 : Nat),
    p5 = .pointer (some ⟨g, 0, none⟩) ∧ p6 = .pointer (some ⟨h, 0, none⟩) ∧ C3 g (.bool s) (.slice ao n cap) (.slice bo m cap') wx ∧ C3 h (.bool t) (.slice co n2 cap2) (.slice eo m2 cap3) wx ∧
    FrV wx (.agg #[.bool s, .slice ao n cap, .slice bo m cap']) s a b ∧ FrV wx (.agg #[.bool t, .slice co n2 cap2, .slice eo m2 cap3]) t c d ∧ Res w G false none 0 0 none 0 0 wx ∧ G < g ∧ G < h

end

set_option maxHeartbeats 8000000 in
theorem Mul_any (q r : Rat) (v v2 : Value) (w : World) (h : RatV w v q) (h' : RatV w v2 r) (k : Nat) (hq : Fit k q) (hr' : Fit k r) (hk : k ≤ 4294967296) :
    Calls Tryz.prog 58 #[v, v2] w (RatOut w (q * r)) := by
  obtain ⟨s, ao, n, cap, bo, m, cap', rfl⟩ := h.shape
  obtain ⟨t, co, n2, cap2, eo, m2, cap3, rfl⟩ := h'.shape
  have hr := Res.start (((Below.refl w.heap.size w).alloc (Nat.le_refl _) (.cells #[.bool s, .slice ao n cap, .slice bo m cap'] 25)).alloc (by simp) (.cells #[.bool t, .slice co n2 cap2, .slice eo m2 cap3] 25)) false none 0 0 none 0 0 25
  have h0 : C3 w.heap.size (.bool s) (.slice ao n cap) (.slice bo m cap') (((w.alloc (.cells #[.bool s, .slice ao n cap, .slice bo m cap'] 25)).alloc (.cells #[.bool t, .slice co n2 cap2, .slice eo m2 cap3] 25)).alloc (.cells #[.bool false, .slice none 0 0, .slice none 0 0] 25)) := ⟨by simp [go_sem], by simp [go_sem], by simp [go_sem]⟩
  have h0' : C3 (w.heap.size + 1) (.bool t) (.slice co n2 cap2) (.slice eo m2 cap3) (((w.alloc (.cells #[.bool s, .slice ao n cap, .slice bo m cap'] 25)).alloc (.cells #[.bool t, .slice co n2 cap2, .slice eo m2 cap3] 25)).alloc (.cells #[.bool false, .slice none 0 0, .slice none 0 0] 25)) := ⟨by simp [go_sem], by simp [go_sem], by simp [go_sem]⟩
  simp only [World.size_alloc] at hr
  go_enter Tryz.func58, Tryz.ntmps58
  go_upto_region 1 with fail
  go_cut [5, 6] (fun s5 s6 wx => TwoFr w (w.heap.size + 1 + 1) (decide (q.num < 0)) q.num.natAbs q.den (decide (r.num < 0)) r.num.natAbs r.den s5 s6 wx)
  case first =>
    generalize ((w.alloc (.cells #[.bool s, .slice ao n cap, .slice bo m cap'] 25)).alloc (.cells #[.bool t, .slice co n2 cap2, .slice eo m2 cap3] 25)).alloc (.cells #[.bool false, .slice none 0 0, .slice none 0 0] 25) = W at *
    have hz := hr.hz
    have lt0 : w.heap.size + 1 + 1 < W.heap.size := by omega
    have hS0 : C3 w.heap.size (.bool s) (.slice ao n cap) (.slice bo m cap') W.drew ∧ C3 (w.heap.size + 1) (.bool t) (.slice co n2 cap2) (.slice eo m2 cap3) W.drew ∧ Below w.heap.size w W.drew ∧ w.heap.size + 1 + 1 < W.drew.heap.size := ⟨h0.next (Below.refl _ W).drew, h0'.next (Below.refl _ W).drew, hr.bel.drew, lt0⟩
    have hSW : C3 w.heap.size (.bool s) (.slice ao n cap) (.slice bo m cap') W ∧ C3 (w.heap.size + 1) (.bool t) (.slice co n2 cap2) (.slice eo m2 cap3) W ∧ Below w.heap.size w W ∧ w.heap.size + 1 + 1 < W.heap.size := ⟨h0, h0', hr.bel, lt0⟩
    have hK : ∀ w' w'', (C3 w.heap.size (.bool s) (.slice ao n cap) (.slice bo m cap') w' ∧ C3 (w.heap.size + 1) (.bool t) (.slice co n2 cap2) (.slice eo m2 cap3) w' ∧ Below w.heap.size w w' ∧ w.heap.size + 1 + 1 < w'.heap.size) → Below w'.heap.size w' w'' → (C3 w.heap.size (.bool s) (.slice ao n cap) (.slice bo m cap') w'' ∧ C3 (w.heap.size + 1) (.bool t) (.slice co n2 cap2) (.slice eo m2 cap3) w'' ∧ Below w.heap.size w w'' ∧ w.heap.size + 1 + 1 < w''.heap.size) := fun w' w'' h hb => ⟨h.1.next hb, h.2.1.next hb, below_chain h.2.2.1 hb, Nat.lt_of_lt_of_le h.2.2.2 hb.size⟩
    have hSt : ∀ w' G (x y z : Value), w.heap.size + 1 + 1 < G → (C3 w.heap.size (.bool s) (.slice ao n cap) (.slice bo m cap') w' ∧ C3 (w.heap.size + 1) (.bool t) (.slice co n2 cap2) (.slice eo m2 cap3) w' ∧ Below w.heap.size w w' ∧ w.heap.size + 1 + 1 < w'.heap.size) →
        (C3 w.heap.size (.bool s) (.slice ao n cap) (.slice bo m cap') (((w'.setCell ⟨G, 0, none⟩ x).setCell ⟨G, 1, none⟩ y).setCell ⟨G, 2, none⟩ z) ∧ C3 (w.heap.size + 1) (.bool t) (.slice co n2 cap2) (.slice eo m2 cap3) (((w'.setCell ⟨G, 0, none⟩ x).setCell ⟨G, 1, none⟩ y).setCell ⟨G, 2, none⟩ z) ∧ Below w.heap.size w (((w'.setCell ⟨G, 0, none⟩ x).setCell ⟨G, 1, none⟩ y).setCell ⟨G, 2, none⟩ z) ∧ w.heap.size + 1 + 1 < (((w'.setCell ⟨G, 0, none⟩ x).setCell ⟨G, 1, none⟩ y).setCell ⟨G, 2, none⟩ z).heap.size) :=
      fun w' G x y z hG h => ⟨h.1.set3 (by omega) _ _ _, h.2.1.set3 (by omega) _ _ _, below_set3 h.2.2.1 (by omega) _ _ _, by rw [size_set3]; exact h.2.2.2⟩
    go_region_held3 (fun w' => C3 w.heap.size (.bool s) (.slice ao n cap) (.slice bo m cap') w' ∧ C3 (w.heap.size + 1) (.bool t) (.slice co n2 cap2) (.slice eo m2 cap3) w' ∧ Below w.heap.size w w' ∧ w.heap.size + 1 + 1 < w'.heap.size)
      (repeat (first | with_reducible refine hSt _ _ _ _ _ (by with_reducible first | exact lt0 | exact Nat.lt_succ_of_lt lt0 | exact lt1 | exact Nat.lt_succ_of_lt lt1 | exact lt2 | exact Nat.lt_succ_of_lt lt2) ?_ | with_reducible assumption | with_reducible refine hK _ _ ?_ (below_alloc _) | with_reducible refine hK _ _ ?_ hb1 | with_reducible refine hK _ _ ?_ hb2 | with_reducible refine hK _ _ ?_ (Below.refl _ _).drew))
      (first
        | (go_at_call_of 100 (Value.agg #[Value.bool s, Value.slice ao n cap, Value.slice bo m cap']); refine (of_any q _ _ (h.next (show Below w.heap.size w _ from And.left (And.right (And.right (by assumption)))))).mono ?_; rintro e w1 ⟨f1, rfl, F1, hb1⟩; have lt1 := (hK _ w1 (by assumption) hb1).2.2.2; obtain ⟨hc1, hf1⟩ := bcell hb1; have hz1 := hb1.size; (try simp at hz1); (try have hu1 := Nat.lt_of_succ_le hz1); (try have hy1 := Nat.lt_of_succ_lt hu1); obtain ⟨xo, xn, xc, yo, yn, yc, rfl⟩ := F1.shape)
        | (go_at_call_of 100 (Value.agg #[Value.bool t, Value.slice co n2 cap2, Value.slice eo m2 cap3]); refine (of_any r _ _ (h'.next (show Below w.heap.size w _ from And.left (And.right (And.right (by assumption)))))).mono ?_; rintro e w2 ⟨f2, rfl, F2, hb2⟩; have lt2 := (hK _ w2 (by assumption) hb2).2.2.2; obtain ⟨hc2, hf2⟩ := bcell hb2; have hz2 := hb2.size; (try simp at hz2); (try have hu2 := Nat.lt_of_succ_le hz2); (try have hy2 := Nat.lt_of_succ_lt hu2); (try have hx2 := Nat.lt_of_lt_of_le hu1 (Nat.le_trans (by simp) hb2.size)); (try have hw2 := Nat.lt_of_lt_of_le hy1 (Nat.le_trans (by simp) hb2.size)); obtain ⟨zo, zn, zc, uo, un, uc, rfl⟩ := F2.shape))
    all_goals
      go_wp2_with fail
      go_meet
      have hlt : ∀ x : Nat, w.heap.size + 1 + 1 < x → w.heap.size ≤ x := fun x h => by omega
      have sol : ∀ (X : World) (G : Nat), G = X.heap.size → Below w.heap.size w X → Res w G false none 0 0 none 0 0 (X.alloc (.cells #[.bool false, .slice none 0 0, .slice none 0 0] 110)) := fun X G e h => Res.startAt h e _ _ _ _ _ _ _ _
      refine ⟨_, _, xo, xn, xc, yo, yn, yc, zo, zn, zc, uo, un, uc, rfl, rfl, ?_, ?_, ?_, ?_, ?_, ?_, ?_⟩
      all_goals (repeat' (first | with_reducible exact F1 | with_reducible exact F2 | with_reducible exact hr | with_reducible exact hr.bel | with_reducible refine FrV.set3 (w := w) (b0 := false) (a1 := none) (n1 := 0) (k1 := 0) (a2 := none) (n2 := 0) (k2 := 0) ?_ ?_ _ _ _ | with_reducible refine FrV.new ?_ _ | with_reducible refine C3.stored (w := w) (b0 := false) (a1 := none) (n1 := 0) (k1 := 0) (a2 := none) (n2 := 0) (k2 := 0) ?_ _ _ _ | with_reducible refine C3.set3 ?_ ?_ _ _ _ | (with_reducible refine C3.here _ _ ?_; · simp) | with_reducible refine C3.new ?_ _ | with_reducible refine Res.other ?_ ?_ (hlt _ ?_) _ _ _ | (with_reducible refine sol _ _ ?_ ?_; · (with_reducible rfl)) | (with_reducible refine sol _ _ ?_ ?_; · simp) | with_reducible refine Res.new ?_ _ | with_reducible refine Res.drew ?_ | with_reducible exact hr.bel.drew | with_reducible refine below_new ?_ _ | with_reducible refine Below.drew ?_ | with_reducible refine FrV.next ?_ hb2 | with_reducible refine Res.next ?_ hb2 | with_reducible refine Res.next ?_ hb1 | with_reducible refine below_chain ?_ hb2 | with_reducible refine below_chain ?_ hb1 | with_reducible exact lt0 | with_reducible exact Nat.lt_succ_of_lt lt0 | with_reducible exact lt1 | with_reducible exact Nat.lt_succ_of_lt lt1 | with_reducible exact lt2 | with_reducible exact Nat.lt_succ_of_lt lt2 | omega))
  case rest =>
    clear hr h0 h0' h h'
    obtain ⟨g, hh, xo, xn, xc, yo, yn, yc, zo, zn, zc, uo, un, uc, rfl, rfl, K1, K2, F1, F2, hrc, hg1, hg2⟩ := hcut
    obtain ⟨sX, sY, zX, zY, nY⟩ := F1.parts
    obtain ⟨sZ, sU, zZ, zU, nU⟩ := F2.parts
    have hd := (Below.refl wc.heap.size wc).drew
    have hxn : xn ≤ 4294967296 := by rw [← sX.lenU]; exact Nat.le_trans hq.1 hk
    have hyn : yn ≤ 4294967296 := by rw [← sY.lenU]; exact Nat.le_trans hq.2 hk
    have hzn : zn ≤ 4294967296 := by rw [← sZ.lenU]; exact Nat.le_trans hr'.1 hk
    have hun : un ≤ 4294967296 := by rw [← sU.lenU]; exact Nat.le_trans hr'.2 hk
    have hA' : lim (q.num.natAbs * r.num.natAbs) ≤ 17179869184 := Nat.le_trans (lim_mul _ _) (Nat.le_trans (Nat.add_le_add hq.1 hr'.1) (by omega))
    have hB' : lim (q.den * r.den) ≤ 17179869184 := Nat.le_trans (lim_mul _ _) (Nat.le_trans (Nat.add_le_add hq.2 hr'.2) (by omega))
    have hn0 : q.den * r.den ≠ 0 := Nat.mul_ne_zero nY nU
    have hrat : Hid (mkRat (sgn (decide (q.num < 0) != decide (r.num < 0)) (q.num.natAbs * r.num.natAbs)) (q.den * r.den) = q * r) := hid (by rw [sgn_xor, sgn_num, sgn_num, ← Rat.mul_def'])
    have t1 := fun w' (h : Below wc.heap.size wc w') => timesD q.num.natAbs r.num.natAbs (sX.next h) (sZ.next h) (by omega) (by omega)
    have t2 := fun w' (h : Below wc.heap.size wc w') => timesD q.den r.den (sY.next h) (sU.next h) (by omega) (by omega)
    generalize q.num.natAbs * r.num.natAbs = A at *
    generalize q.den * r.den = B at *
    generalize decide (q.num < 0) = s1 at *
    generalize decide (r.num < 0) = s2 at *
    have T1 := hid t1; have T2 := hid t2
    clear t1 t2 sX sY sZ sU F1 F2
    have hK : ∀ w' w'', (C3 g (.bool s1) (.slice xo xn xc) (.slice yo yn yc) w' ∧ C3 hh (.bool s2) (.slice zo zn zc) (.slice uo un uc) w') → Below w'.heap.size w' w'' → (C3 g (.bool s1) (.slice xo xn xc) (.slice yo yn yc) w'' ∧ C3 hh (.bool s2) (.slice zo zn zc) (.slice uo un uc) w'') := fun w' w'' h hb => ⟨h.1.next hb, h.2.next hb⟩
    have hSt : ∀ w' (x y z : Value), (C3 g (.bool s1) (.slice xo xn xc) (.slice yo yn yc) w' ∧ C3 hh (.bool s2) (.slice zo zn zc) (.slice uo un uc) w') → (C3 g (.bool s1) (.slice xo xn xc) (.slice yo yn yc) (((w'.setCell ⟨w.heap.size + 1 + 1, 0, none⟩ x).setCell ⟨w.heap.size + 1 + 1, 1, none⟩ y).setCell ⟨w.heap.size + 1 + 1, 2, none⟩ z) ∧ C3 hh (.bool s2) (.slice zo zn zc) (.slice uo un uc) (((w'.setCell ⟨w.heap.size + 1 + 1, 0, none⟩ x).setCell ⟨w.heap.size + 1 + 1, 1, none⟩ y).setCell ⟨w.heap.size + 1 + 1, 2, none⟩ z)) :=
      fun w' x y z h => ⟨h.1.set3 (by omega) _ _ _, h.2.set3 (by omega) _ _ _⟩
    have hS0 : C3 g (.bool s1) (.slice xo xn xc) (.slice yo yn yc) wc.drew ∧ C3 hh (.bool s2) (.slice zo zn zc) (.slice uo un uc) wc.drew := ⟨K1.next hd, K2.next hd⟩
    go_wp2_with fail
    go_region_held3 (fun w' => C3 g (.bool s1) (.slice xo xn xc) (.slice yo yn yc) w' ∧ C3 hh (.bool s2) (.slice zo zn zc) (.slice uo un uc) w')
      (repeat (first | with_reducible assumption | with_reducible exact hSt _ _ _ _ (by assumption) | with_reducible refine hK _ _ ?_ hb3 | with_reducible refine hK _ _ ?_ hb4 | with_reducible refine hK _ _ ?_ hb5))
      (first
        | (go_at_call_of 101 (Value.slice xo xn xc); refine (T1.out _ hd).mono ?_; rintro e w3 ⟨po, pn, pc, rfl, sP, hzp, hb3, _⟩)
        | (go_at_call_of 101 (Value.slice yo yn yc); refine (T2.out _ (hd.trans (hb3.mono (Nat.le_refl _)))).mono ?_; rintro e w4 ⟨qo, qn, qc, rfl, sQ, hzq, hb4, _⟩)
        | (go_at_call 102; refine (rat_any _ A B _ _ ⟨po, qo, pn, pc, qn, qc, rfl, sP.next hb4, sQ, hzp, hzq, hn0⟩ hA' hB').mono ?_; rintro e w5 ⟨v5, rfl, C5, hb5⟩; obtain ⟨rb, ro, rn, rc, so, sn, sc, rfl⟩ := C5.shape; have hr5 := ((hrc.drew.next hb3).next hb4).next hb5; obtain ⟨d0, d1, d2, g0, g1, g2, _, _, _, _⟩ := hr5))
    go_wp2_with fail
    refine bodyPost_ret (v := .agg #[.bool rb, .slice ro rn rc, .slice so sn sc]) (by simp [results, Tryz.results58, go_sem, d0, d1, d2]) rfl ?_
    have := (((hrc.drew.next hb3).next hb4).next hb5).rc C5
    rw [show (!(s1 == s2)) = (s1 != s2) from rfl, hrat.out] at this
    exact this

end Go.Proofs.YtgohfieleckmgaaGreatDoor

/-
  A variable of three cells that is known whole: plain facts of memory. No condition.
-/
namespace Go.Proofs.YtgohfieleckmgaaGreatDoor
open Go.RowKit
set_option linter.unusedSimpArgs false
set_option linter.unusedVariables false

/-- Block G, made since w, holds just three cells. -/
structure Bk (w : World) (G : Nat) (x y z : Value) (w' : World) : Prop where
  heap : ∃ T, w'.heap[G]? = some (.cells #[x, y, z] T (0, 0))
  ge : w.heap.size ≤ G
  bel : Below w.heap.size w w'

section
variable {w w' w'' : World} {G g : Nat} {x y z : Value}
theorem Bk.lt (h : Bk w G x y z w') : G < w'.heap.size := by
  obtain ⟨T, hT⟩ := h.heap
  exact (Array.getElem?_eq_some_iff.1 hT).1
theorem Bk.cell (h : Bk w G x y z w') (i : Nat) : w'.cell? ⟨G, i, none⟩ = #[x, y, z][i]? := by
  obtain ⟨T, hT⟩ := h.heap
  exact cell_of_row w' G i _ T (0, 0) hT
theorem Bk.c3 (h : Bk w G x y z w') : C3 G x y z w' := ⟨by rw [h.cell]; rfl, by rw [h.cell]; rfl, by rw [h.cell]; rfl⟩
theorem Bk.free (h : Bk w G x y z w') (i : Nat) : w'.frozen? ⟨G, i, none⟩ = false := by
  obtain ⟨T, hT⟩ := h.heap
  exact frozen_of_row w' G i _ T hT
theorem Bk.next (h : Bk w G x y z w') (hb : Below w'.heap.size w' w'') : Bk w G x y z w'' :=
  ⟨by obtain ⟨T, hT⟩ := h.heap; exact ⟨T, by rw [hb.block G h.lt]; exact hT⟩, h.ge, below_chain h.bel hb⟩
theorem Bk.drew (h : Bk w G x y z w') : Bk w G x y z w'.drew := ⟨h.heap, h.ge, h.bel.drew⟩
theorem Bk.drewN (h : Bk w G x y z w') (n : Nat) : Bk w G x y z (w'.drewN n) := h.next ⟨rfl, rfl, rfl, Nat.le_refl _, fun _ _ => rfl⟩
theorem Bk.new (h : Bk w G x y z w') (o : Obj) : Bk w G x y z (w'.alloc o) := h.next (below_alloc o)
theorem Bk.start (hb : Below w.heap.size w w') (hG : G = w'.heap.size) (x y z : Value) (T : TypeId) : Bk w G x y z (w'.alloc (.cells #[x, y, z] T)) := by
  subst hG
  exact ⟨⟨T, heap_alloc_new w' _⟩, hb.size, hb.alloc hb.size _⟩
/-- It is stored to. -/
theorem Bk.put (h : Bk w G x y z w') (x' y' z' : Value) : Bk w G x' y' z' (((w'.setCell ⟨G, 0, none⟩ x').setCell ⟨G, 1, none⟩ y').setCell ⟨G, 2, none⟩ z') := by
  obtain ⟨T, hT⟩ := h.heap
  refine ⟨⟨T, ?_⟩, h.ge, below_set3 h.bel h.ge _ _ _⟩
  have h1 := heap_setCell_same w' G 0 _ T x' hT
  have h2 := heap_setCell_same _ G 1 _ T y' h1
  have h3 := heap_setCell_same _ G 2 _ T z' h2
  exact h3
/-- Another variable is stored to. -/
theorem Bk.other (h : Bk w G x y z w') (hg : g ≠ G) (hw : w.heap.size ≤ g) (x' y' z' : Value) : Bk w G x y z (((w'.setCell ⟨g, 0, none⟩ x').setCell ⟨g, 1, none⟩ y').setCell ⟨g, 2, none⟩ z') := by
  obtain ⟨T, hT⟩ := h.heap
  refine ⟨⟨T, ?_⟩, h.ge, below_set3 h.bel hw _ _ _⟩
  rw [Below.heap_setCell _ _ _ _ (show G ≠ g from fun e => hg e.symm), Below.heap_setCell _ _ _ _ (show G ≠ g from fun e => hg e.symm), Below.heap_setCell _ _ _ _ (show G ≠ g from fun e => hg e.symm)]
  exact hT
theorem Bk.res {b0 : Bool} {a1 a2 : Option Addr} {n1 n2 k1 k2 : Nat} (h : Bk w G (.bool b0) (.slice a1 n1 k1) (.slice a2 n2 k2) w') : Res w G b0 a1 n1 k1 a2 n2 k2 w' :=
  ⟨h.c3.1, h.c3.2.1, h.c3.2.2, h.free 0, h.free 1, h.free 2, h.lt, h.ge, h.bel, fun i v hv => by
    rw [h.cell] at hv
    match i, hv with
    | 0, hv => exact .inl (by simpa using hv.symm)
    | 1, hv => exact .inr (.inl (by simpa using hv.symm))
    | 2, hv => exact .inr (.inr (by simpa using hv.symm))
    | i + 3, hv => simp at hv⟩
end

/-- A variable with a rational. -/
def BkQ (w : World) (G : Nat) (q : Rat) (w' : World) : Prop :=
  ∃ (s : Bool) (ao : Option Addr) (n cap : Nat) (bo : Option Addr) (m cap' : Nat), Bk w G (.bool s) (.slice ao n cap) (.slice bo m cap') w' ∧ RatC w' (.agg #[.bool s, .slice ao n cap, .slice bo m cap']) q

theorem RatC.putOther {w w' : World} {G : Nat} {q : Rat} {v : Value} {b0 : Bool} {a1 a2 : Option Addr} {n1 n2 k1 k2 : Nat} (hr : Res w G b0 a1 n1 k1 a2 n2 k2 w') (C : RatC w' v q) (x y z : Value) :
    RatC (((w'.setCell ⟨G, 0, none⟩ x).setCell ⟨G, 1, none⟩ y).setCell ⟨G, 2, none⟩ z) v q := by
  obtain ⟨ao', bo', n', cap1, m', cap2, rfl, s1, s2, hz, hz'⟩ := C
  exact ⟨_, _, _, _, _, _, rfl, s1.set3 (hr.off s1) _ _ _, s2.set3 (hr.off s2) _ _ _, hz, hz'⟩
theorem Sl.putOther {w w' : World} {G : Nat} {b0 : Bool} {a1 a2 : Option Addr} {n1 n2 k1 k2 : Nat} (hr : Res w G b0 a1 n1 k1 a2 n2 k2 w') {ao : Option Addr} {n cap : Nat} {l : List Nat} (s : Sl w' ao n cap (u32s l)) (x y z : Value) :
    Sl (((w'.setCell ⟨G, 0, none⟩ x).setCell ⟨G, 1, none⟩ y).setCell ⟨G, 2, none⟩ z) ao n cap (u32s l) := s.set3 (hr.off s) _ _ _

theorem Bk.putQ {w w' : World} {G : Nat} {b0 : Bool} {a1 a2 : Option Addr} {n1 n2 k1 k2 : Nat} (h : Bk w G (.bool b0) (.slice a1 n1 k1) (.slice a2 n2 k2) w') {q : Rat} {s : Bool} {ao bo : Option Addr} {n cap m cap' : Nat} (C : RatC w' (.agg #[.bool s, .slice ao n cap, .slice bo m cap']) q) :
    BkQ w G q (((w'.setCell ⟨G, 0, none⟩ (.bool s)).setCell ⟨G, 1, none⟩ (.slice ao n cap)).setCell ⟨G, 2, none⟩ (.slice bo m cap')) :=
  ⟨_, _, _, _, _, _, _, h.put _ _ _, C.putOther h.res _ _ _⟩

theorem rat_zero_agg (w : World) : RatC w (.agg #[.bool false, .slice none 0 0, .slice none 0 0]) 0 := ratC_zero w

end Go.Proofs.YtgohfieleckmgaaGreatDoor

/-
  The contract of rational.Div. No condition but sizes.
-/
namespace Go.Proofs.YtgohfieleckmgaaGreatDoor
open Go.RowKit
set_option linter.unusedSimpArgs false
set_option linter.unusedVariables false

def divErr (r : Rat) : Int := if r = 0 then 11 else 0

theorem rat_parts (q : Rat) : (q.num : Rat) / (q.den : Rat) = q := by rw [← Rat.mkRat_eq_div, Rat.mkRat_self]
theorem rat_den_ne (q : Rat) : (q.den : Rat) ≠ 0 := by
  intro h
  have : ((q.den : Int) : Rat) = ((0 : Int) : Rat) := h
  have := Rat.intCast_inj.1 this
  exact q.den_nz (by omega)
theorem frac_div (a b c d : Rat) (hb : b ≠ 0) (hd : d ≠ 0) : (a * d) / (b * c) = (a / b) / (c / d) := by
  by_cases hc : c = 0
  · subst hc; grind
  · grind

theorem div_core (q r : Rat) : mkRat (sgn (decide (q.num < 0) != decide (r.num < 0)) (q.num.natAbs * r.den)) (q.den * r.num.natAbs) = q / r := by
  have h := mk_sign (q.num * r.den) (q.den * r.num)
  have hq : 0 < (q.den : Int) := by have := q.den_nz; omega
  have hr : 0 < (r.den : Int) := by have := r.den_nz; omega
  have e1 : decide (q.num * (r.den : Int) < 0) = decide (q.num < 0) := by
    rw [decide_eq_decide]
    constructor
    · intro h; by_cases hc : 0 ≤ q.num
      · have := Int.mul_nonneg hc (Int.le_of_lt hr); omega
      · omega
    · intro h; exact Int.mul_neg_of_neg_of_pos h hr
  have e2 : decide ((q.den : Int) * r.num < 0) = decide (r.num < 0) := by
    rw [decide_eq_decide]
    constructor
    · intro h; by_cases hc : 0 ≤ r.num
      · have := Int.mul_nonneg (Int.le_of_lt hq) hc; omega
      · omega
    · intro h; exact Int.mul_neg_of_pos_of_neg hq h
  rw [e1, e2, Int.natAbs_mul, Int.natAbs_mul, Int.natAbs_natCast, Int.natAbs_natCast] at h
  rw [h, Rat.intCast_mul, Rat.intCast_mul]
  have := frac_div q.num q.den r.num r.den (rat_den_ne q) (rat_den_ne r)
  rw [rat_parts, rat_parts] at this
  exact this

set_option maxHeartbeats 8000000 in
theorem Div_any (q r : Rat) (v v2 : Value) (w : World) (h : RatV w v q) (h' : RatV w v2 r) (k : Nat) (hq : Fit k q) (hr' : Fit k r) (hk : k ≤ 4294967296) :
    Calls Tryz.prog 65 #[v, v2] w (RatOut2 w (q / r) (divErr r)) := by
  obtain ⟨s, ao, n, cap, bo, m, cap', rfl⟩ := h.shape
  obtain ⟨t, co, n2, cap2, eo, m2, cap3, rfl⟩ := h'.shape
  have hr := Res.start (((Below.refl w.heap.size w).alloc (Nat.le_refl _) (.cells #[.bool s, .slice ao n cap, .slice bo m cap'] 25)).alloc (by simp) (.cells #[.bool t, .slice co n2 cap2, .slice eo m2 cap3] 25)) false none 0 0 none 0 0 25
  have h0 : C3 w.heap.size (.bool s) (.slice ao n cap) (.slice bo m cap') (((w.alloc (.cells #[.bool s, .slice ao n cap, .slice bo m cap'] 25)).alloc (.cells #[.bool t, .slice co n2 cap2, .slice eo m2 cap3] 25)).alloc (.cells #[.bool false, .slice none 0 0, .slice none 0 0] 25)) := ⟨by simp [go_sem], by simp [go_sem], by simp [go_sem]⟩
  have h0' : C3 (w.heap.size + 1) (.bool t) (.slice co n2 cap2) (.slice eo m2 cap3) (((w.alloc (.cells #[.bool s, .slice ao n cap, .slice bo m cap'] 25)).alloc (.cells #[.bool t, .slice co n2 cap2, .slice eo m2 cap3] 25)).alloc (.cells #[.bool false, .slice none 0 0, .slice none 0 0] 25)) := ⟨by simp [go_sem], by simp [go_sem], by simp [go_sem]⟩
  simp only [World.size_alloc] at hr
  go_enter Tryz.func65, Tryz.ntmps65
  go_upto_region 1 with fail
  go_cut [6, 7] (fun s5 s6 wx => TwoFr w (w.heap.size + 1 + 1) (decide (q.num < 0)) q.num.natAbs q.den (decide (r.num < 0)) r.num.natAbs r.den s5 s6 wx)
  case first =>
    generalize ((w.alloc (.cells #[.bool s, .slice ao n cap, .slice bo m cap'] 25)).alloc (.cells #[.bool t, .slice co n2 cap2, .slice eo m2 cap3] 25)).alloc (.cells #[.bool false, .slice none 0 0, .slice none 0 0] 25) = W at *
    have hz := hr.hz
    have lt0 : w.heap.size + 1 + 1 < W.heap.size := by omega
    have hS0 : C3 w.heap.size (.bool s) (.slice ao n cap) (.slice bo m cap') W.drew ∧ C3 (w.heap.size + 1) (.bool t) (.slice co n2 cap2) (.slice eo m2 cap3) W.drew ∧ Below w.heap.size w W.drew ∧ w.heap.size + 1 + 1 < W.drew.heap.size := ⟨h0.next (Below.refl _ W).drew, h0'.next (Below.refl _ W).drew, hr.bel.drew, lt0⟩
    have hSW : C3 w.heap.size (.bool s) (.slice ao n cap) (.slice bo m cap') W ∧ C3 (w.heap.size + 1) (.bool t) (.slice co n2 cap2) (.slice eo m2 cap3) W ∧ Below w.heap.size w W ∧ w.heap.size + 1 + 1 < W.heap.size := ⟨h0, h0', hr.bel, lt0⟩
    have hK : ∀ w' w'', (C3 w.heap.size (.bool s) (.slice ao n cap) (.slice bo m cap') w' ∧ C3 (w.heap.size + 1) (.bool t) (.slice co n2 cap2) (.slice eo m2 cap3) w' ∧ Below w.heap.size w w' ∧ w.heap.size + 1 + 1 < w'.heap.size) → Below w'.heap.size w' w'' → (C3 w.heap.size (.bool s) (.slice ao n cap) (.slice bo m cap') w'' ∧ C3 (w.heap.size + 1) (.bool t) (.slice co n2 cap2) (.slice eo m2 cap3) w'' ∧ Below w.heap.size w w'' ∧ w.heap.size + 1 + 1 < w''.heap.size) := fun w' w'' h hb => ⟨h.1.next hb, h.2.1.next hb, below_chain h.2.2.1 hb, Nat.lt_of_lt_of_le h.2.2.2 hb.size⟩
    have hSt : ∀ w' G (x y z : Value), w.heap.size + 1 + 1 < G → (C3 w.heap.size (.bool s) (.slice ao n cap) (.slice bo m cap') w' ∧ C3 (w.heap.size + 1) (.bool t) (.slice co n2 cap2) (.slice eo m2 cap3) w' ∧ Below w.heap.size w w' ∧ w.heap.size + 1 + 1 < w'.heap.size) →
        (C3 w.heap.size (.bool s) (.slice ao n cap) (.slice bo m cap') (((w'.setCell ⟨G, 0, none⟩ x).setCell ⟨G, 1, none⟩ y).setCell ⟨G, 2, none⟩ z) ∧ C3 (w.heap.size + 1) (.bool t) (.slice co n2 cap2) (.slice eo m2 cap3) (((w'.setCell ⟨G, 0, none⟩ x).setCell ⟨G, 1, none⟩ y).setCell ⟨G, 2, none⟩ z) ∧ Below w.heap.size w (((w'.setCell ⟨G, 0, none⟩ x).setCell ⟨G, 1, none⟩ y).setCell ⟨G, 2, none⟩ z) ∧ w.heap.size + 1 + 1 < (((w'.setCell ⟨G, 0, none⟩ x).setCell ⟨G, 1, none⟩ y).setCell ⟨G, 2, none⟩ z).heap.size) :=
      fun w' G x y z hG h => ⟨h.1.set3 (by omega) _ _ _, h.2.1.set3 (by omega) _ _ _, below_set3 h.2.2.1 (by omega) _ _ _, by rw [size_set3]; exact h.2.2.2⟩
    go_region_held3 (fun w' => C3 w.heap.size (.bool s) (.slice ao n cap) (.slice bo m cap') w' ∧ C3 (w.heap.size + 1) (.bool t) (.slice co n2 cap2) (.slice eo m2 cap3) w' ∧ Below w.heap.size w w' ∧ w.heap.size + 1 + 1 < w'.heap.size)
      (repeat (first | with_reducible refine hSt _ _ _ _ _ (by with_reducible first | exact lt0 | exact Nat.lt_succ_of_lt lt0 | exact lt1 | exact Nat.lt_succ_of_lt lt1 | exact lt2 | exact Nat.lt_succ_of_lt lt2) ?_ | with_reducible assumption | with_reducible refine hK _ _ ?_ (below_alloc _) | with_reducible refine hK _ _ ?_ hb1 | with_reducible refine hK _ _ ?_ hb2 | with_reducible refine hK _ _ ?_ (Below.refl _ _).drew))
      (first
        | (go_at_call_of 100 (Value.agg #[Value.bool s, Value.slice ao n cap, Value.slice bo m cap']); refine (of_any q _ _ (h.next (show Below w.heap.size w _ from And.left (And.right (And.right (by assumption)))))).mono ?_; rintro e w1 ⟨f1, rfl, F1, hb1⟩; have lt1 := (hK _ w1 (by assumption) hb1).2.2.2; obtain ⟨hc1, hf1⟩ := bcell hb1; have hz1 := hb1.size; (try simp at hz1); (try have hu1 := Nat.lt_of_succ_le hz1); (try have hy1 := Nat.lt_of_succ_lt hu1); obtain ⟨xo, xn, xc, yo, yn, yc, rfl⟩ := F1.shape)
        | (go_at_call_of 100 (Value.agg #[Value.bool t, Value.slice co n2 cap2, Value.slice eo m2 cap3]); refine (of_any r _ _ (h'.next (show Below w.heap.size w _ from And.left (And.right (And.right (by assumption)))))).mono ?_; rintro e w2 ⟨f2, rfl, F2, hb2⟩; have lt2 := (hK _ w2 (by assumption) hb2).2.2.2; obtain ⟨hc2, hf2⟩ := bcell hb2; have hz2 := hb2.size; (try simp at hz2); (try have hu2 := Nat.lt_of_succ_le hz2); (try have hy2 := Nat.lt_of_succ_lt hu2); (try have hx2 := Nat.lt_of_lt_of_le hu1 (Nat.le_trans (by simp) hb2.size)); (try have hw2 := Nat.lt_of_lt_of_le hy1 (Nat.le_trans (by simp) hb2.size)); obtain ⟨zo, zn, zc, uo, un, uc, rfl⟩ := F2.shape))
    all_goals
      go_wp2_with fail
      go_meet
      have hlt : ∀ x : Nat, w.heap.size + 1 + 1 < x → w.heap.size ≤ x := fun x h => by omega
      have sol : ∀ (X : World) (G : Nat), G = X.heap.size → Below w.heap.size w X → Res w G false none 0 0 none 0 0 (X.alloc (.cells #[.bool false, .slice none 0 0, .slice none 0 0] 110)) := fun X G e h => Res.startAt h e _ _ _ _ _ _ _ _
      refine ⟨_, _, xo, xn, xc, yo, yn, yc, zo, zn, zc, uo, un, uc, rfl, rfl, ?_, ?_, ?_, ?_, ?_, ?_, ?_⟩
      all_goals (repeat' (first | with_reducible exact F1 | with_reducible exact F2 | with_reducible exact hr | with_reducible exact hr.bel | with_reducible refine FrV.set3 (w := w) (b0 := false) (a1 := none) (n1 := 0) (k1 := 0) (a2 := none) (n2 := 0) (k2 := 0) ?_ ?_ _ _ _ | with_reducible refine FrV.new ?_ _ | with_reducible refine C3.stored (w := w) (b0 := false) (a1 := none) (n1 := 0) (k1 := 0) (a2 := none) (n2 := 0) (k2 := 0) ?_ _ _ _ | with_reducible refine C3.set3 ?_ ?_ _ _ _ | (with_reducible refine C3.here _ _ ?_; · simp) | with_reducible refine C3.new ?_ _ | with_reducible refine Res.other ?_ ?_ (hlt _ ?_) _ _ _ | (with_reducible refine sol _ _ ?_ ?_; · (with_reducible rfl)) | (with_reducible refine sol _ _ ?_ ?_; · simp) | with_reducible refine Res.new ?_ _ | with_reducible refine Res.drew ?_ | with_reducible exact hr.bel.drew | with_reducible refine below_new ?_ _ | with_reducible refine Below.drew ?_ | with_reducible refine FrV.next ?_ hb2 | with_reducible refine Res.next ?_ hb2 | with_reducible refine Res.next ?_ hb1 | with_reducible refine below_chain ?_ hb2 | with_reducible refine below_chain ?_ hb1 | with_reducible exact lt0 | with_reducible exact Nat.lt_succ_of_lt lt0 | with_reducible exact lt1 | with_reducible exact Nat.lt_succ_of_lt lt1 | with_reducible exact lt2 | with_reducible exact Nat.lt_succ_of_lt lt2 | omega))
  case rest =>
    clear hr h0 h0' h h'
    obtain ⟨g, hh, xo, xn, xc, yo, yn, yc, zo, zn, zc, uo, un, uc, rfl, rfl, K1, K2, F1, F2, hrc, hg1, hg2⟩ := hcut
    obtain ⟨sX, sY, zX, zY, nY⟩ := F1.parts
    obtain ⟨sZ, sU, zZ, zU, nU⟩ := F2.parts
    have hd := (Below.refl wc.heap.size wc).drew
    have hxn : xn ≤ 4294967296 := by rw [← sX.lenU]; exact Nat.le_trans hq.1 hk
    have hyn : yn ≤ 4294967296 := by rw [← sY.lenU]; exact Nat.le_trans hq.2 hk
    have hzn : zn ≤ 4294967296 := by rw [← sZ.lenU]; exact Nat.le_trans hr'.1 hk
    have hun : un ≤ 4294967296 := by rw [← sU.lenU]; exact Nat.le_trans hr'.2 hk
    have hz0 := sZ.lenU
    obtain ⟨k10, k11, k12⟩ := K1
    obtain ⟨k20, k21, k22⟩ := K2
    by_cases hr0 : r = 0
    · subst hr0
      have e1 : Hid (divErr 0 = 11) := hid (if_pos rfl)
      have e2 : Hid (q / 0 = 0) := hid (by grind)
      rw [show (0 : Rat).num.natAbs = 0 from rfl, dig_zero] at hz0
      obtain rfl : zn = 0 := by simpa using hz0.symm
      have hrc2 := hrc
      obtain ⟨d0, d1, d2, g0, g1, g2, _, _, _, _⟩ := hrc2
      clear hz0
      go_wp2_with fail
      refine bodyPost_ret (v := .tuple #[.agg #[.bool false, .slice none 0 0, .slice none 0 0], .int .i64 11]) (by simp [results, Tryz.results65, go_sem, d0, d1, d2]) rfl ?_
      rw [e1.out, e2.out]
      exact (hrc.rc (ratC_zero _)).two 11
    · have hrn : r.num.natAbs ≠ 0 := fun h => hr0 (Rat.num_eq_zero.1 (Int.natAbs_eq_zero.1 h))
      have e1 : Hid (divErr r = 0) := hid (if_neg hr0)
      have hzn0 : 1 ≤ zn := by
        cases zn with
        | zero => exact absurd (List.eq_nil_of_length_eq_zero hz0) (fun h => hrn (dig_nil.1 h))
        | succ n => omega
      clear hz0
      have hA' : lim (q.num.natAbs * r.den) ≤ 17179869184 := Nat.le_trans (lim_mul _ _) (Nat.le_trans (Nat.add_le_add hq.1 hr'.2) (by omega))
      have hB' : lim (q.den * r.num.natAbs) ≤ 17179869184 := Nat.le_trans (lim_mul _ _) (Nat.le_trans (Nat.add_le_add hq.2 hr'.1) (by omega))
      have hn0 : q.den * r.num.natAbs ≠ 0 := Nat.mul_ne_zero nY hrn
      have hrat : Hid (mkRat (sgn (decide (q.num < 0) != decide (r.num < 0)) (q.num.natAbs * r.den)) (q.den * r.num.natAbs) = q / r) := hid (div_core q r)
      have t1 := fun w' (h : Below wc.heap.size wc w') => timesD q.num.natAbs r.den (sX.next h) (sU.next h) (by omega) (by omega)
      have t2 := fun w' (h : Below wc.heap.size wc w') => timesD q.den r.num.natAbs (sY.next h) (sZ.next h) (by omega) (by omega)
      generalize q.num.natAbs * r.den = A at *
      generalize q.den * r.num.natAbs = B at *
      generalize decide (q.num < 0) = s1 at *
      generalize decide (r.num < 0) = s2 at *
      have K1 : C3 g (.bool s1) (.slice xo xn xc) (.slice yo yn yc) wc := ⟨k10, k11, k12⟩
      have K2 : C3 hh (.bool s2) (.slice zo zn zc) (.slice uo un uc) wc := ⟨k20, k21, k22⟩
      have T1 := hid t1; have T2 := hid t2
      clear t1 t2 sX sY sZ sU F1 F2 k10 k11 k12 k20 k21 k22 hr0
      have hK : ∀ w' w'', (C3 g (.bool s1) (.slice xo xn xc) (.slice yo yn yc) w' ∧ C3 hh (.bool s2) (.slice zo zn zc) (.slice uo un uc) w') → Below w'.heap.size w' w'' → (C3 g (.bool s1) (.slice xo xn xc) (.slice yo yn yc) w'' ∧ C3 hh (.bool s2) (.slice zo zn zc) (.slice uo un uc) w'') := fun w' w'' h hb => ⟨h.1.next hb, h.2.next hb⟩
      have hSt : ∀ w' (x y z : Value), (C3 g (.bool s1) (.slice xo xn xc) (.slice yo yn yc) w' ∧ C3 hh (.bool s2) (.slice zo zn zc) (.slice uo un uc) w') → (C3 g (.bool s1) (.slice xo xn xc) (.slice yo yn yc) (((w'.setCell ⟨w.heap.size + 1 + 1, 0, none⟩ x).setCell ⟨w.heap.size + 1 + 1, 1, none⟩ y).setCell ⟨w.heap.size + 1 + 1, 2, none⟩ z) ∧ C3 hh (.bool s2) (.slice zo zn zc) (.slice uo un uc) (((w'.setCell ⟨w.heap.size + 1 + 1, 0, none⟩ x).setCell ⟨w.heap.size + 1 + 1, 1, none⟩ y).setCell ⟨w.heap.size + 1 + 1, 2, none⟩ z)) :=
        fun w' x y z h => ⟨h.1.set3 (by omega) _ _ _, h.2.set3 (by omega) _ _ _⟩
      have hS0 : C3 g (.bool s1) (.slice xo xn xc) (.slice yo yn yc) wc.drew ∧ C3 hh (.bool s2) (.slice zo zn zc) (.slice uo un uc) wc.drew := ⟨K1.next hd, K2.next hd⟩
      go_wp2_with fail
      go_region_held3 (fun w' => C3 g (.bool s1) (.slice xo xn xc) (.slice yo yn yc) w' ∧ C3 hh (.bool s2) (.slice zo zn zc) (.slice uo un uc) w')
        (repeat (first | with_reducible assumption | with_reducible exact hSt _ _ _ _ (by assumption) | with_reducible refine hK _ _ ?_ hb3 | with_reducible refine hK _ _ ?_ hb4 | with_reducible refine hK _ _ ?_ hb5))
        (first
          | (go_at_call_of 101 (Value.slice xo xn xc); refine (T1.out _ hd).mono ?_; rintro e w3 ⟨po, pn, pc, rfl, sP, hzp, hb3, _⟩)
          | (go_at_call_of 101 (Value.slice yo yn yc); refine (T2.out _ (hd.trans (hb3.mono (Nat.le_refl _)))).mono ?_; rintro e w4 ⟨qo, qn, qc, rfl, sQ, hzq, hb4, _⟩)
          | (go_at_call 102; refine (rat_any _ A B _ _ ⟨po, qo, pn, pc, qn, qc, rfl, sP.next hb4, sQ, hzp, hzq, hn0⟩ hA' hB').mono ?_; rintro e w5 ⟨v5, rfl, C5, hb5⟩; obtain ⟨rb, ro, rn, rc, so, sn, sc, rfl⟩ := C5.shape; have hr5 := ((hrc.drew.next hb3).next hb4).next hb5; obtain ⟨d0, d1, d2, g0, g1, g2, _, _, _, _⟩ := hr5))
      go_wp2_with fail
      refine bodyPost_ret (v := .tuple #[.agg #[.bool rb, .slice ro rn rc, .slice so sn sc], .int .i64 0]) (by simp [results, Tryz.results65, go_sem, d0, d1, d2]) rfl ?_
      have := (((hrc.drew.next hb3).next hb4).next hb5).rc C5
      rw [show (!(s1 == s2)) = (s1 != s2) from rfl, hrat.out] at this
      rw [e1.out]
      exact this.two 0


end Go.Proofs.YtgohfieleckmgaaGreatDoor
