/-
  The contracts of the statements' helpers of layer 1: light, awake. No condition but sizes and the table of powers of ten.
-/
import Derived.Test.YtjppjhjfogjhaaaGreatDoorTxtJ
namespace Go.Proofs.YtjppjhjfogjhaaaGreatDoor
open Go.RowKit Go.Lib
set_option linter.unusedSimpArgs false
set_option linter.unusedVariables false

/-- Has a number at most 6 limbs? -/
def lightB (m l : Nat) : Bool := decide ((m : Int) ≤ 6) && decide ((l : Int) ≤ 6)

theorem lightB_yes {m l : Nat} (h : lightB m l = true) : m ≤ 6 ∧ l ≤ 6 := by
  unfold lightB at h
  simp only [Bool.and_eq_true, decide_eq_true_eq] at h
  omega

theorem llight_any (s : Bool) (ao bo : Option Addr) (n cap m cap' : Nat) (hn : n ≤ 9223372036854775807) (hm : m ≤ 9223372036854775807) (w : World) :
    Calls Tryz.prog 11 #[.agg #[.bool s, .slice ao n cap, .slice bo m cap']] w fun e w' => e = .returned (.bool (lightB n m)) ∧ Below w.heap.size w w' := by
  have hB := Bk.start (Below.refl w.heap.size w) rfl (.bool s) (.slice ao n cap) (.slice bo m cap') 24
  have hbel := hB.bel
  obtain ⟨c, hc⟩ : ∃ c, lightB n m = c := ⟨_, rfl⟩
  have hL := rLight_any s ao bo n cap m cap' 6 hn hm
  rw [show (decide ((n : Int) ≤ 6) && decide ((m : Int) ≤ 6)) = c from hc] at hL
  rw [hc]
  have HL := hid hL
  clear hL hc
  go_enter Tryz.func11, Tryz.ntmps11
  go_wp2_with fail
  refine (HL.out _).mono ?_; rintro e w1 ⟨rfl, hb1⟩
  go_wp2_with fail
  go_ret
  exact ⟨rfl, below_chain hbel hb1⟩

theorem ex_make : makeErr (-4) = 0 ∧ fmtQ (makeRat 6 (-4)) = [45, 51, 47, 50] ∧ Fit 1 (makeRat 6 (-4)) := by
  have h1 : (makeRat 6 (-4)).num = -3 := by decide +kernel
  have h2 : (makeRat 6 (-4)).den = 2 := by decide +kernel
  refine ⟨rfl, ?_, ⟨by rw [h1]; exact lim_small (by decide), by rw [h2]; exact lim_small (by decide)⟩⟩
  unfold fmtQ
  rw [h1, h2, decDigits_one (by decide), decDigits_one (by decide)]; rfl
theorem ex_parse : parseOk [52, 47, 54] = true ∧ fmtQ (parseQ [52, 47, 54]) = [50, 47, 51] ∧ Fit 1 (parseQ [52, 47, 54]) := by
  have h0 : parseOk [52, 47, 54] = true := by decide
  have h1 : (parseQ [52, 47, 54]).num = 2 := by decide +kernel
  have h2 : (parseQ [52, 47, 54]).den = 3 := by decide +kernel
  refine ⟨h0, ?_, ⟨by rw [h1]; exact lim_small (by decide), by rw [h2]; exact lim_small (by decide)⟩⟩
  unfold fmtQ
  rw [h1, h2, decDigits_one (by decide), decDigits_one (by decide)]; rfl
theorem ex_of : Fit 1 (makeRat 5 3) := by
  have h1 : (makeRat 5 3).num = 5 := by decide +kernel
  have h2 : (makeRat 5 3).den = 3 := by decide +kernel
  exact ⟨by rw [h1]; exact lim_small (by decide), by rw [h2]; exact lim_small (by decide)⟩
theorem ex_down : fmtQ (downI (makeRat 5 3) 1) = [51, 47, 50] := by
  have h1 : (downI (makeRat 5 3) 1).num = 3 := by decide +kernel
  have h2 : (downI (makeRat 5 3) 1).den = 2 := by decide +kernel
  unfold fmtQ
  rw [h1, h2, decDigits_one (by decide), decDigits_one (by decide)]; rfl
theorem ex_up : fmtQ (upI (makeRat 5 3) 1) = [50] := by
  have h1 : (upI (makeRat 5 3) 1).num = 2 := by decide +kernel
  have h2 : (upI (makeRat 5 3) 1).den = 1 := by decide +kernel
  unfold fmtQ
  rw [h1, h2, decDigits_one (by decide)]; rfl

theorem str_eq {s : ByteArray} {l : List UInt8} (h : s.data.toList = l) : s = ⟨l.toArray⟩ := by
  rw [← h]

theorem fit_upI {k : Nat} {q : Rat} (h : Fit k q) (i : Int) : Fit (k + 19) (upI q i) := fit_neg (fit_downI (fit_neg h) i)

set_option maxHeartbeats 4000000 in
theorem lawake_any (w : World) (hp : Pow w) : Calls Tryz.prog 12 #[] w fun e w' => e = .returned (.bool true) ∧ Below w.heap.size w w' := by
  go_enter Tryz.func12, Tryz.ntmps12
  go_wp2_with fail
  refine (Make_any 6 (-4) (by decide) (by decide) (by decide) (by decide) _).mono ?_
  rw [ex_make.1]
  rintro e w1 ⟨v1, rfl, C1, hb1⟩
  obtain ⟨rb, ro, rn, rc, so, sn, sc, rfl⟩ := C1.shape
  have hX := Bk.start hb1 rfl (.bool rb) (.slice ro rn rc) (.slice so sn sc) 24
  have C1 := C1.next (below_alloc (.cells #[.bool rb, .slice ro rn rc, .slice so sn sc] 24))
  go_wp2_with fail
  refine (Parse_any ⟨#[52, 47, 54]⟩ (by decide) _).mono ?_
  rw [show (⟨#[52, 47, 54]⟩ : ByteArray).data.toList = [52, 47, 54] from rfl]
  rintro e w2 ⟨v2, rfl, C2, hb2⟩
  rw [ex_parse.1]
  obtain ⟨tb, to', tn, tc, uo, un, uc, rfl⟩ := C2.shape
  have hX2 := hX.next hb2
  have C1 := C1.next hb2
  have hY := Bk.start hX2.bel rfl (.bool tb) (.slice to' tn tc) (.slice uo un uc) 24
  have hX2 := hX2.new (.cells #[.bool tb, .slice to' tn tc, .slice uo un uc] 24)
  have C1 := C1.next (below_alloc (.cells #[.bool tb, .slice to' tn tc, .slice uo un uc] 24))
  have C2 := C2.next (below_alloc (.cells #[.bool tb, .slice to' tn tc, .slice uo un uc] 24))
  obtain ⟨c0, c1, c2⟩ := hX2.c3
  clear hX
  go_wp2_with fail
  refine (Format_any _ _ _ (C1.toV ex_make.2.2 (by decide)) 1 ex_make.2.2 (by decide) (hp.next hX2.bel)).mono ?_
  rw [ex_make.2.1]
  rintro e w3 ⟨s3, rfl, hs3, hb3⟩
  obtain rfl := str_eq hs3
  have hX3 := hX2.next hb3
  have hY3 := hY.next hb3
  have C2 := C2.next hb3
  clear c0 c1 c2 hX2 hY
  obtain ⟨c0, c1, c2⟩ := hY3.c3
  go_wp2_with fail
  refine (Format_any _ _ _ (C2.toV ex_parse.2.2 (by decide)) 1 ex_parse.2.2 (by decide) (hp.next hX3.bel)).mono ?_
  rw [ex_parse.2.1]
  rintro e w4 ⟨s4, rfl, hs4, hb4⟩
  obtain rfl := str_eq hs4
  have hX4 := hX3.next hb4
  clear c0 c1 c2 hX3 hY3
  go_wp2_with fail
  refine (rOf_any 5 3 (by decide) (by decide) (by decide) (by decide) _).mono ?_
  rintro e w5 ⟨v5, rfl, C5, hb5⟩
  have hX5 := hX4.next hb5
  go_wp2_with fail
  refine (Down_any _ 1 _ _ (C5.toV ex_of (by decide)) 1 ex_of (by decide)).mono ?_
  rintro e w6 ⟨v6, rfl, C6, hb6⟩
  have hX6 := hX5.next hb6
  go_wp2_with fail
  refine (Format_any _ _ _ (C6.toV (fit_downI ex_of 1) (by decide)) 20 (fit_downI ex_of 1) (by decide) (hp.next hX6.bel)).mono ?_
  rw [ex_down]
  rintro e w7 ⟨s7, rfl, hs7, hb7⟩
  obtain rfl := str_eq hs7
  have hX7 := hX6.next hb7
  go_wp2_with fail
  refine (rOf_any 5 3 (by decide) (by decide) (by decide) (by decide) _).mono ?_
  rintro e w8 ⟨v8, rfl, C8, hb8⟩
  have hX8 := hX7.next hb8
  go_wp2_with fail
  refine (Up_any _ 1 _ _ (C8.toV ex_of (by decide)) 1 ex_of (by decide)).mono ?_
  rintro e w9 ⟨v9, rfl, C9, hb9⟩
  have hX9 := hX8.next hb9
  go_wp2_with fail
  refine (Format_any _ _ _ (C9.toV (fit_upI ex_of 1) (by decide)) 20 (fit_upI ex_of 1) (by decide) (hp.next hX9.bel)).mono ?_
  rw [ex_up]
  rintro e wa ⟨sa, rfl, hsa, hba⟩
  obtain rfl := str_eq hsa
  have hXa := hX9.next hba
  go_wp2_with fail
  go_ret
  exact ⟨rfl, hXa.bel⟩

end Go.Proofs.YtjppjhjfogjhaaaGreatDoor
