/-
  Two variables with rationals; the contracts of the reference's Sign and Neg. No condition but sizes.
-/
import Derived.Test.YteancfcmiiddiaaRefI
import Derived.Deep.DeepCutAuto
namespace Go.Proofs.Yteancfcmiiddiaa
open Go.RowKit
set_option linter.unusedSimpArgs false
set_option linter.unusedVariables false

/-- Two variables with rationals and an empty one. -/
def TwoQ (w : World) (B1 B2 G : Nat) (q r : Rat) (wx : World) : Prop :=
  BkQ w B1 q wx ∧ BkQ w B2 r wx ∧ Bk w G (.bool false) (.slice none 0 0) (.slice none 0 0) wx

theorem two_put {w W : World} {B1 B2 G : Nat} {q r : Rat} {b1 b2 : Bool} {a1 a2 a3 a4 : Option Addr} {n1 n2 n3 n4 k1 k2 k3 k4 : Nat} (h1 : Bk w B1 (.bool b1) (.slice a1 n1 k1) (.slice a2 n2 k2) W) (h2 : Bk w B2 (.bool b2) (.slice a3 n3 k3) (.slice a4 n4 k4) W)
    (hG : Bk w G (.bool false) (.slice none 0 0) (.slice none 0 0) W) {s t : Bool} {ao bo co eo : Option Addr} {n cap m cap' n' cap2 m' cap3 : Nat} (C1 : RatC W (.agg #[.bool s, .slice ao n cap, .slice bo m cap']) q) (C2 : RatC W (.agg #[.bool t, .slice co n' cap2, .slice eo m' cap3]) r)
    (d12 : B1 ≠ B2) (dG1 : G ≠ B1) (dG2 : G ≠ B2) :
    TwoQ w B1 B2 G q r ((((((W.setCell ⟨B1, 0, none⟩ (.bool s)).setCell ⟨B1, 1, none⟩ (.slice ao n cap)).setCell ⟨B1, 2, none⟩ (.slice bo m cap')).setCell ⟨B2, 0, none⟩ (.bool t)).setCell ⟨B2, 1, none⟩ (.slice co n' cap2)).setCell ⟨B2, 2, none⟩ (.slice eo m' cap3)) := by
  have p1 := h1.put (.bool s) (.slice ao n cap) (.slice bo m cap')
  have p2 := h2.other d12 h1.ge (.bool s) (.slice ao n cap) (.slice bo m cap')
  have pG := hG.other dG1.symm h1.ge (.bool s) (.slice ao n cap) (.slice bo m cap')
  have c1 := C1.putOther h1.res (.bool s) (.slice ao n cap) (.slice bo m cap')
  have c2 := C2.putOther h1.res (.bool s) (.slice ao n cap) (.slice bo m cap')
  exact ⟨⟨_, _, _, _, _, _, _, p1.other d12.symm p2.ge _ _ _, c1.putOther p2.res _ _ _⟩, ⟨_, _, _, _, _, _, _, p2.put _ _ _, c2.putOther p2.res _ _ _⟩, pG.other dG2.symm p2.ge _ _ _⟩

/-- One cell is stored to. -/
theorem Bk.put0 {w w' : World} {G : Nat} {x y z : Value} (h : Bk w G x y z w') (x' : Value) : Bk w G x' y z (w'.setCell ⟨G, 0, none⟩ x') := by
  obtain ⟨T, hT⟩ := h.heap
  exact ⟨⟨T, heap_setCell_same w' G 0 _ T x' hT⟩, h.ge, h.bel.setCell h.ge _⟩
theorem Bk.other0 {w w' : World} {G g : Nat} {x y z : Value} (h : Bk w G x y z w') (hg : g ≠ G) (hw : w.heap.size ≤ g) (i : Nat) (x' : Value) : Bk w G x y z (w'.setCell ⟨g, i, none⟩ x') := by
  obtain ⟨T, hT⟩ := h.heap
  exact ⟨⟨T, by rw [Below.heap_setCell _ _ _ _ (show G ≠ g from fun e => hg e.symm)]; exact hT⟩, h.ge, h.bel.setCell hw _⟩
theorem RatC.other0 {w w' : World} {G : Nat} {q : Rat} {v : Value} {b0 : Bool} {a1 a2 : Option Addr} {n1 n2 k1 k2 : Nat} (hr : Res w G b0 a1 n1 k1 a2 n2 k2 w') (C : RatC w' v q) (i : Nat) (x : Value) : RatC (w'.setCell ⟨G, i, none⟩ x) v q := by
  obtain ⟨ao', bo', n', cap1, m', cap2, rfl, s1, s2, hz, hz'⟩ := C
  exact ⟨_, _, _, _, _, _, rfl, s1.setCell (hr.off s1) _ _, s2.setCell (hr.off s2) _ _, hz, hz'⟩

theorem RatC.parts {w : World} {q : Rat} {s : Bool} {ao bo : Option Addr} {n cap m cap' : Nat} (h : RatC w (.agg #[.bool s, .slice ao n cap, .slice bo m cap']) q) :
    s = decide (q.num < 0) ∧ Sl w ao n cap (u32s (dig q.num.natAbs)) ∧ Sl w bo m cap' (u32s (denL q)) ∧ (ao = none → cap = 0) ∧ (bo = none → cap' = 0) := by
  obtain ⟨ao', bo', n', cap1, m', cap2, hv, h⟩ := h
  injection hv with hv
  injection hv with hv
  injection hv with e1 hv
  injection hv with e2 hv
  injection hv with e3 _
  injection e1 with e0
  injection e2 with e4 e5 e6
  injection e3 with e7 e8 e9
  subst e4 e5 e6 e7 e8 e9
  exact ⟨e0, h⟩

set_option maxHeartbeats 1000000 in
theorem rSign_any (q : Rat) (v : Value) (w : World) (h : RatV w v q) :
    Calls Try.prog 102 #[v] w fun e w' => e = .returned (.int .i64 (rsg q)) ∧ Below w.heap.size w w' := by
  obtain ⟨s, ao, n, cap, bo, m, cap', rfl⟩ := h.shape
  have hB := Bk.start (Below.refl w.heap.size w) rfl (.bool s) (.slice ao n cap) (.slice bo m cap') 54
  go_enter Try.func102, Try.ntmps102
  go_wp2_with fail
  refine (rTake_any q _ _ (h.next hB.bel)).mono ?_; rintro e w1 ⟨v1, rfl, C1, hb1⟩
  obtain ⟨rb, ro, rn, rc, so, sn, sc, rfl⟩ := C1.shape
  obtain ⟨rfl, sf, _, _, _⟩ := C1.parts
  have hB1 := hB.next hb1
  have hbel := (hB1.put (.bool (decide (q.num < 0))) (.slice ro rn rc) (.slice so sn sc)).bel
  obtain ⟨d0, d1, d2⟩ := hB1.c3
  have f0 := hB1.free 0
  have f1 := hB1.free 1
  have f2 := hB1.free 2
  have hl := sf.lenU
  rcases Int.lt_trichotomy q.num 0 with hlt | heq | hgt
  · have hr : rsg q = -1 := by unfold rsg sg; rw [if_pos hlt]
    have hd : decide (q.num < 0) = true := decide_eq_true hlt
    rw [hd] at hbel ⊢
    have Hr := hid hr
    clear hr hd hlt hl C1 sf
    go_wp2_with fail
    go_ret
    exact ⟨retI Hr.out.symm, hbel⟩
  · have hr : rsg q = 0 := by unfold rsg sg; rw [heq]; rfl
    have hd : decide (q.num < 0) = false := by rw [heq]; rfl
    rw [heq, show Int.natAbs 0 = 0 from rfl, dig_zero] at hl
    have hf : rn = 0 := by simpa using hl.symm
    subst hf
    rw [hd] at hbel ⊢
    have Hr := hid hr
    clear hr hd heq hl C1 sf
    go_wp2_with fail
    go_ret
    exact ⟨retI Hr.out.symm, hbel⟩
  · have hr : rsg q = 1 := by unfold rsg sg; rw [if_neg (by omega), if_neg (by omega)]
    have hd : decide (q.num < 0) = false := decide_eq_false (by omega)
    have hf : 1 ≤ rn := by
      cases rn with
      | zero => exact absurd (List.eq_nil_of_length_eq_zero hl) (fun h => by have := dig_nil.1 h; omega)
      | succ n => omega
    rw [hd] at hbel ⊢
    have Hr := hid hr
    clear hr hd hgt hl C1 sf
    go_wp2_with fail
    go_ret
    exact ⟨retI Hr.out.symm, hbel⟩

theorem ratC_neg {w : World} {q : Rat} {s t : Bool} {ao bo : Option Addr} {n cap m cap' : Nat} (h : RatC w (.agg #[.bool s, .slice ao n cap, .slice bo m cap']) q) (ht : t = (decide (0 < n) && !s)) : RatC w (.agg #[.bool t, .slice ao n cap, .slice bo m cap']) (-q) := by
  obtain ⟨rfl, h1, h2, hz, hz'⟩ := h.parts
  have hl := h1.lenU
  refine ⟨ao, bo, n, cap, m, cap', ?_, by rw [Rat.neg_num, Int.natAbs_neg]; exact h1, by unfold denL at h2 ⊢; rw [Rat.neg_den]; exact h2, hz, hz'⟩
  have : t = decide ((-q).num < 0) := by
    rw [ht, Rat.neg_num]
    rcases Int.lt_trichotomy q.num 0 with hlt | heq | hgt
    · simp [hlt]; omega
    · rw [heq, show Int.natAbs 0 = 0 from rfl, dig_zero] at hl
      have : n = 0 := by simpa using hl.symm
      simp [this, heq]
    · have hn : 0 < n := by
        cases n with
        | zero => exact absurd (List.eq_nil_of_length_eq_zero hl) (fun h => by have := dig_nil.1 h; omega)
        | succ n => omega
      have h1 : ¬ q.num < 0 := by omega
      have h2 : -q.num < 0 := by omega
      simp [hn, h1, h2, hgt]
  rw [this]

set_option maxHeartbeats 1000000 in
theorem rNeg_any (q : Rat) (v : Value) (w : World) (h : RatV w v q) : Calls Try.prog 89 #[v] w (RatOut w (-q)) := by
  obtain ⟨s, ao, n, cap, bo, m, cap', rfl⟩ := h.shape
  have hB := (Bk.start (Below.refl w.heap.size w) rfl (.bool s) (.slice ao n cap) (.slice bo m cap') 54).new (.cells #[.bool false, .slice none 0 0, .slice none 0 0] 54)
  have hG : Bk w (w.heap.size + 1) (.bool false) (.slice none 0 0) (.slice none 0 0) ((w.alloc (.cells #[.bool s, .slice ao n cap, .slice bo m cap'] 54)).alloc (.cells #[.bool false, .slice none 0 0, .slice none 0 0] 54)) := Bk.start (below_alloc _) (by simp) _ _ _ _
  go_enter Try.func89, Try.ntmps89
  go_wp2_with fail
  refine (rTake_any q _ _ (h.next hB.bel)).mono ?_; rintro e w1 ⟨v1, rfl, C1, hb1⟩
  obtain ⟨rb, ro, rn, rc, so, sn, sc, rfl⟩ := C1.shape
  have hB1 := hB.next hb1
  have hG1 := hG.next hb1
  have c1 := C1.putOther hB1.res (.bool rb) (.slice ro rn rc) (.slice so sn sc)
  have b1 := hB1.put (.bool rb) (.slice ro rn rc) (.slice so sn sc)
  have g1 := hG1.other (by omega) hB1.ge (.bool rb) (.slice ro rn rc) (.slice so sn sc)
  obtain ⟨d0, d1, d2⟩ := hB1.c3
  have f0 := hB1.free 0
  have f1 := hB1.free 1
  have f2 := hB1.free 2
  obtain ⟨e0, e1, e2⟩ := hG1.c3
  have k0 := hG1.free 0
  have k1 := hG1.free 1
  have k2 := hG1.free 2
  clear hB hG hB1 hG1
  by_cases hn : 0 < rn
  · have hneg := ratC_neg (t := !rb) c1 (by simp [hn])
    clear C1 c1
    go_wp2_with fail
    refine bodyPost_ret (v := .agg #[.bool (!rb), .slice ro rn rc, .slice so sn sc]) (by simp [results, Try.results89, go_sem, d0, d1, d2, e0, e1, e2]) rfl ?_
    exact (g1.other0 (by omega) b1.ge 0 _).res.rc (hneg.other0 b1.res 0 _)
  · obtain rfl : rn = 0 := by omega
    have hneg := ratC_neg (t := false) c1 (by simp)
    clear C1 c1
    go_wp2_with fail
    refine bodyPost_ret (v := .agg #[.bool false, .slice ro 0 rc, .slice so sn sc]) (by simp [results, Try.results89, go_sem, d0, d1, d2, e0, e1, e2]) rfl ?_
    exact (g1.other0 (by omega) b1.ge 0 _).res.rc (hneg.other0 b1.res 0 _)

end Go.Proofs.Yteancfcmiiddiaa
