/-
  How a statement's number reads; the contract of fair. No condition.
-/
import Derived.Test.YtjppjhjfogjhaaaGreatDoorTxtK
namespace Go.Proofs.YtjppjhjfogjhaaaGreatDoor
open Go.RowKit Go.Lib
set_option linter.unusedSimpArgs false
set_option linter.unusedVariables false

/-- A light number reads as a rational. -/
theorem arg_V {w : World} {s : Bool} {N D : List Nat} {bo : Option Addr} {m ca : Nat} {co : Option Addr} {l cb : Nat} (hN : Sl w bo m ca (u32s N)) (hD : Sl w co l cb (u32s D)) (LN : Lim N) (LD : Lim D) (zb : bo = none → ca = 0) (zc : co = none → cb = 0)
    (h : lightB m l = true) : RatV w (.agg #[.bool s, .slice bo m ca, .slice co l cb]) (ratOf s N D) ∧ Fit 6 (ratOf s N D) := by
  obtain ⟨h1, h2⟩ := lightB_yes h
  refine ⟨⟨s, N, D, bo, co, m, ca, l, cb, rfl, hN, hD, LN, LD, zb, zc, by omega, by omega, rfl⟩, ratOf_fit LN LD ?_ ?_ (by decide)⟩
  · rw [hN.lenU]; exact h1
  · rw [hD.lenU]; exact h2

/-- A valid one is its number's only representation. -/
theorem arg_C {w : World} {s : Bool} {N D : List Nat} {bo : Option Addr} {m ca : Nat} {co : Option Addr} {l cb : Nat} (hN : Sl w bo m ca (u32s N)) (hD : Sl w co l cb (u32s D)) (LN : Lim N) (LD : Lim D) (zb : bo = none → ca = 0) (zc : co = none → cb = 0)
    (h : ratOk s N D = true) : RatC w (.agg #[.bool s, .slice bo m ca, .slice co l cb]) (ratOf s N D) := by
  obtain ⟨h1, h2, h3⟩ := ratOk_facts LN LD h
  refine ⟨bo, co, m, ca, l, cb, ?_, ?_, ?_, zb, zc⟩
  · rw [← h2]
  · rw [← h1]; exact hN
  · have : denL (ratOf s N D) = D := by
      unfold denL
      by_cases hd : D = []
      · rw [if_pos hd] at h3; rw [if_pos h3, hd]
      · rw [if_neg hd] at h3
        by_cases h4 : (ratOf s N D).den = 1
        · exfalso
          rw [h4] at h3
          unfold ratOk at h
          simp only [Bool.and_eq_true] at h
          obtain ⟨_, h⟩ := h
          by_cases hN0 : N = []
          · rw [if_pos hN0] at h
            simp only [Bool.and_eq_true, decide_eq_true_eq] at h
            exact hd h.2
          · rw [if_neg hN0, if_neg hd] at h
            simp only [Bool.and_eq_true, decide_eq_true_eq] at h
            rw [h3] at h
            have := h.1
            rw [val_dig] at this
            exact this rfl
        · rw [if_neg h4]; exact h3.symm
    rw [this]; exact hD

/-- Are three numbers light and valid? -/
def fairB (s : Bool) (N D : List Nat) (m l : Nat) (t : Bool) (N2 D2 : List Nat) (m2 l2 : Nat) (u : Bool) (N3 D3 : List Nat) (m3 l3 : Nat) : Bool := (lightB m l) && (lightB m2 l2) && (lightB m3 l3) && (ratOk s N D) && (ratOk t N2 D2) && (ratOk u N3 D3)

set_option maxHeartbeats 4000000 in
theorem fair_any (w : World) (s : Bool) (N D : List Nat) (bo : Option Addr) (m ca : Nat) (co : Option Addr) (l cb : Nat) (hN1 : Sl w bo m ca (u32s N)) (hD1 : Sl w co l cb (u32s D)) (LN1 : Lim N) (LD1 : Lim D) (zb1 : bo = none → ca = 0) (zc1 : co = none → cb = 0) (t : Bool) (N2 D2 : List Nat) (bo2 : Option Addr) (m2 ca2 : Nat) (co2 : Option Addr) (l2 cb2 : Nat) (hN2 : Sl w bo2 m2 ca2 (u32s N2)) (hD2 : Sl w co2 l2 cb2 (u32s D2)) (LN2 : Lim N2) (LD2 : Lim D2) (zb2 : bo2 = none → ca2 = 0) (zc2 : co2 = none → cb2 = 0) (u : Bool) (N3 D3 : List Nat) (bo3 : Option Addr) (m3 ca3 : Nat) (co3 : Option Addr) (l3 cb3 : Nat) (hN3 : Sl w bo3 m3 ca3 (u32s N3)) (hD3 : Sl w co3 l3 cb3 (u32s D3)) (LN3 : Lim N3) (LD3 : Lim D3) (zb3 : bo3 = none → ca3 = 0) (zc3 : co3 = none → cb3 = 0) :
    Calls Tryz.prog 33 #[.agg #[.bool s, .slice bo m ca, .slice co l cb], .agg #[.bool t, .slice bo2 m2 ca2, .slice co2 l2 cb2], .agg #[.bool u, .slice bo3 m3 ca3, .slice co3 l3 cb3]] w fun e w' => e = .returned (.bool (fairB s N D m l t N2 D2 m2 l2 u N3 D3 m3 l3)) ∧ Below w.heap.size w w' := by
  have X := ((Bk.start (Below.refl w.heap.size w) rfl (.bool s) (.slice bo m ca) (.slice co l cb) 24).new (.cells #[.bool t, .slice bo2 m2 ca2, .slice co2 l2 cb2] 24)).new (.cells #[.bool u, .slice bo3 m3 ca3, .slice co3 l3 cb3] 24)
  have Y : Bk w (w.heap.size + 1) (.bool t) (.slice bo2 m2 ca2) (.slice co2 l2 cb2) (((w.alloc (.cells #[.bool s, .slice bo m ca, .slice co l cb] 24)).alloc (.cells #[.bool t, .slice bo2 m2 ca2, .slice co2 l2 cb2] 24)).alloc (.cells #[.bool u, .slice bo3 m3 ca3, .slice co3 l3 cb3] 24)) := (Bk.start (below_alloc _) (by simp) _ _ _ _).new _
  have Z : Bk w (w.heap.size + 1 + 1) (.bool u) (.slice bo3 m3 ca3) (.slice co3 l3 cb3) (((w.alloc (.cells #[.bool s, .slice bo m ca, .slice co l cb] 24)).alloc (.cells #[.bool t, .slice bo2 m2 ca2, .slice co2 l2 cb2] 24)).alloc (.cells #[.bool u, .slice bo3 m3 ca3, .slice co3 l3 cb3] 24)) := Bk.start ((below_alloc _).alloc (by simp) _) (by simp) _ _ _ _
  have bn1 := hN1.bound
  have bd1 := hD1.bound
  have bn2 := hN2.bound
  have bd2 := hD2.bound
  have bn3 := hN3.bound
  have bd3 := hD3.bound
  have hb0 := X.bel
  have cl1 := fun W => llight_any s bo co m ca l cb bn1 bd1 W
  have cv1 := fun W (hb : Below w.heap.size w W) (h : lightB m l = true) => rValid_any s N D LN1 LD1 bo co m l ca cb W (hN1.next hb) (hD1.next hb) zb1 zc1 (by have := lightB_yes h; omega) (by have := lightB_yes h; omega)
  have cl2 := fun W => llight_any t bo2 co2 m2 ca2 l2 cb2 bn2 bd2 W
  have cv2 := fun W (hb : Below w.heap.size w W) (h : lightB m2 l2 = true) => rValid_any t N2 D2 LN2 LD2 bo2 co2 m2 l2 ca2 cb2 W (hN2.next hb) (hD2.next hb) zb2 zc2 (by have := lightB_yes h; omega) (by have := lightB_yes h; omega)
  have cl3 := fun W => llight_any u bo3 co3 m3 ca3 l3 cb3 bn3 bd3 W
  have cv3 := fun W (hb : Below w.heap.size w W) (h : lightB m3 l3 = true) => rValid_any u N3 D3 LN3 LD3 bo3 co3 m3 l3 ca3 cb3 W (hN3.next hb) (hD3.next hb) zb3 zc3 (by have := lightB_yes h; omega) (by have := lightB_yes h; omega)
  unfold fairB
  generalize lightB m l = p1 at *
  generalize ratOk s N D = q1 at *
  generalize lightB m2 l2 = p2 at *
  generalize ratOk t N2 D2 = q2 at *
  generalize lightB m3 l3 = p3 at *
  generalize ratOk u N3 D3 = q3 at *
  have CL1 := hid cl1
  have CV1 := hid cv1
  clear cl1 cv1
  have CL2 := hid cl2
  have CV2 := hid cv2
  clear cl2 cv2
  have CL3 := hid cl3
  have CV3 := hid cv3
  clear cl3 cv3
  clear hN1 hD1 LN1 LD1 zb1 zc1 bn1 bd1 hN2 hD2 LN2 LD2 zb2 zc2 bn2 bd2 hN3 hD3 LN3 LD3 zb3 zc3 bn3 bd3
  cases p1 with
  | false =>
    go_enter Tryz.func33, Tryz.ntmps33
    go_wp2_with fail
    refine (CL1.out _).mono ?_; rintro e w1 ⟨rfl, hb1⟩
    have X := X.next hb1
    have Y := Y.next hb1
    have Z := Z.next hb1
    go_wp2_with fail
    go_ret
    exact ⟨rfl, X.bel⟩
  | true =>
    cases p2 with
    | false =>
      go_enter Tryz.func33, Tryz.ntmps33
      go_wp2_with fail
      refine (CL1.out _).mono ?_; rintro e w1 ⟨rfl, hb1⟩
      have X := X.next hb1
      have Y := Y.next hb1
      have Z := Z.next hb1
      obtain ⟨x0, x1, x2⟩ := X.c3
      obtain ⟨y0, y1, y2⟩ := Y.c3
      obtain ⟨z0, z1, z2⟩ := Z.c3
      go_wp2_with fail
      refine (CL2.out _).mono ?_; rintro e w2 ⟨rfl, hb2⟩
      have X := X.next hb2
      have Y := Y.next hb2
      have Z := Z.next hb2
      go_wp2_with fail
      go_ret
      exact ⟨rfl, X.bel⟩
    | true =>
      cases p3 with
      | false =>
        go_enter Tryz.func33, Tryz.ntmps33
        go_wp2_with fail
        refine (CL1.out _).mono ?_; rintro e w1 ⟨rfl, hb1⟩
        have X := X.next hb1
        have Y := Y.next hb1
        have Z := Z.next hb1
        obtain ⟨x0, x1, x2⟩ := X.c3
        obtain ⟨y0, y1, y2⟩ := Y.c3
        obtain ⟨z0, z1, z2⟩ := Z.c3
        go_wp2_with fail
        refine (CL2.out _).mono ?_; rintro e w2 ⟨rfl, hb2⟩
        have X := X.next hb2
        have Y := Y.next hb2
        have Z := Z.next hb2
        obtain ⟨x0, x1, x2⟩ := X.c3
        obtain ⟨y0, y1, y2⟩ := Y.c3
        obtain ⟨z0, z1, z2⟩ := Z.c3
        go_wp2_with fail
        refine (CL3.out _).mono ?_; rintro e w3 ⟨rfl, hb3⟩
        have X := X.next hb3
        have Y := Y.next hb3
        have Z := Z.next hb3
        go_wp2_with fail
        go_ret
        exact ⟨rfl, X.bel⟩
      | true =>
        cases q1 with
        | false =>
          go_enter Tryz.func33, Tryz.ntmps33
          go_wp2_with fail
          refine (CL1.out _).mono ?_; rintro e w1 ⟨rfl, hb1⟩
          have X := X.next hb1
          have Y := Y.next hb1
          have Z := Z.next hb1
          obtain ⟨x0, x1, x2⟩ := X.c3
          obtain ⟨y0, y1, y2⟩ := Y.c3
          obtain ⟨z0, z1, z2⟩ := Z.c3
          go_wp2_with fail
          refine (CL2.out _).mono ?_; rintro e w2 ⟨rfl, hb2⟩
          have X := X.next hb2
          have Y := Y.next hb2
          have Z := Z.next hb2
          obtain ⟨x0, x1, x2⟩ := X.c3
          obtain ⟨y0, y1, y2⟩ := Y.c3
          obtain ⟨z0, z1, z2⟩ := Z.c3
          go_wp2_with fail
          refine (CL3.out _).mono ?_; rintro e w3 ⟨rfl, hb3⟩
          have X := X.next hb3
          have Y := Y.next hb3
          have Z := Z.next hb3
          obtain ⟨x0, x1, x2⟩ := X.c3
          obtain ⟨y0, y1, y2⟩ := Y.c3
          obtain ⟨z0, z1, z2⟩ := Z.c3
          go_wp2_with fail
          refine (CV1.out _ (X.bel) (by trivial)).mono ?_; rintro e w4 ⟨rfl, hb4⟩
          have X := X.next hb4
          have Y := Y.next hb4
          have Z := Z.next hb4
          go_wp2_with fail
          go_ret
          exact ⟨rfl, X.bel⟩
        | true =>
          cases q2 with
          | false =>
            go_enter Tryz.func33, Tryz.ntmps33
            go_wp2_with fail
            refine (CL1.out _).mono ?_; rintro e w1 ⟨rfl, hb1⟩
            have X := X.next hb1
            have Y := Y.next hb1
            have Z := Z.next hb1
            obtain ⟨x0, x1, x2⟩ := X.c3
            obtain ⟨y0, y1, y2⟩ := Y.c3
            obtain ⟨z0, z1, z2⟩ := Z.c3
            go_wp2_with fail
            refine (CL2.out _).mono ?_; rintro e w2 ⟨rfl, hb2⟩
            have X := X.next hb2
            have Y := Y.next hb2
            have Z := Z.next hb2
            obtain ⟨x0, x1, x2⟩ := X.c3
            obtain ⟨y0, y1, y2⟩ := Y.c3
            obtain ⟨z0, z1, z2⟩ := Z.c3
            go_wp2_with fail
            refine (CL3.out _).mono ?_; rintro e w3 ⟨rfl, hb3⟩
            have X := X.next hb3
            have Y := Y.next hb3
            have Z := Z.next hb3
            obtain ⟨x0, x1, x2⟩ := X.c3
            obtain ⟨y0, y1, y2⟩ := Y.c3
            obtain ⟨z0, z1, z2⟩ := Z.c3
            go_wp2_with fail
            refine (CV1.out _ (X.bel) (by trivial)).mono ?_; rintro e w4 ⟨rfl, hb4⟩
            have X := X.next hb4
            have Y := Y.next hb4
            have Z := Z.next hb4
            obtain ⟨x0, x1, x2⟩ := X.c3
            obtain ⟨y0, y1, y2⟩ := Y.c3
            obtain ⟨z0, z1, z2⟩ := Z.c3
            go_wp2_with fail
            refine (CV2.out _ (X.bel) (by trivial)).mono ?_; rintro e w5 ⟨rfl, hb5⟩
            have X := X.next hb5
            have Y := Y.next hb5
            have Z := Z.next hb5
            go_wp2_with fail
            go_ret
            exact ⟨rfl, X.bel⟩
          | true =>
            cases q3 with
            | false =>
              go_enter Tryz.func33, Tryz.ntmps33
              go_wp2_with fail
              refine (CL1.out _).mono ?_; rintro e w1 ⟨rfl, hb1⟩
              have X := X.next hb1
              have Y := Y.next hb1
              have Z := Z.next hb1
              obtain ⟨x0, x1, x2⟩ := X.c3
              obtain ⟨y0, y1, y2⟩ := Y.c3
              obtain ⟨z0, z1, z2⟩ := Z.c3
              go_wp2_with fail
              refine (CL2.out _).mono ?_; rintro e w2 ⟨rfl, hb2⟩
              have X := X.next hb2
              have Y := Y.next hb2
              have Z := Z.next hb2
              obtain ⟨x0, x1, x2⟩ := X.c3
              obtain ⟨y0, y1, y2⟩ := Y.c3
              obtain ⟨z0, z1, z2⟩ := Z.c3
              go_wp2_with fail
              refine (CL3.out _).mono ?_; rintro e w3 ⟨rfl, hb3⟩
              have X := X.next hb3
              have Y := Y.next hb3
              have Z := Z.next hb3
              obtain ⟨x0, x1, x2⟩ := X.c3
              obtain ⟨y0, y1, y2⟩ := Y.c3
              obtain ⟨z0, z1, z2⟩ := Z.c3
              go_wp2_with fail
              refine (CV1.out _ (X.bel) (by trivial)).mono ?_; rintro e w4 ⟨rfl, hb4⟩
              have X := X.next hb4
              have Y := Y.next hb4
              have Z := Z.next hb4
              obtain ⟨x0, x1, x2⟩ := X.c3
              obtain ⟨y0, y1, y2⟩ := Y.c3
              obtain ⟨z0, z1, z2⟩ := Z.c3
              go_wp2_with fail
              refine (CV2.out _ (X.bel) (by trivial)).mono ?_; rintro e w5 ⟨rfl, hb5⟩
              have X := X.next hb5
              have Y := Y.next hb5
              have Z := Z.next hb5
              obtain ⟨x0, x1, x2⟩ := X.c3
              obtain ⟨y0, y1, y2⟩ := Y.c3
              obtain ⟨z0, z1, z2⟩ := Z.c3
              go_wp2_with fail
              refine (CV3.out _ (X.bel) (by trivial)).mono ?_; rintro e w6 ⟨rfl, hb6⟩
              have X := X.next hb6
              have Y := Y.next hb6
              have Z := Z.next hb6
              go_wp2_with fail
              go_ret
              exact ⟨rfl, X.bel⟩
            | true =>
              go_enter Tryz.func33, Tryz.ntmps33
              go_wp2_with fail
              refine (CL1.out _).mono ?_; rintro e w1 ⟨rfl, hb1⟩
              have X := X.next hb1
              have Y := Y.next hb1
              have Z := Z.next hb1
              obtain ⟨x0, x1, x2⟩ := X.c3
              obtain ⟨y0, y1, y2⟩ := Y.c3
              obtain ⟨z0, z1, z2⟩ := Z.c3
              go_wp2_with fail
              refine (CL2.out _).mono ?_; rintro e w2 ⟨rfl, hb2⟩
              have X := X.next hb2
              have Y := Y.next hb2
              have Z := Z.next hb2
              obtain ⟨x0, x1, x2⟩ := X.c3
              obtain ⟨y0, y1, y2⟩ := Y.c3
              obtain ⟨z0, z1, z2⟩ := Z.c3
              go_wp2_with fail
              refine (CL3.out _).mono ?_; rintro e w3 ⟨rfl, hb3⟩
              have X := X.next hb3
              have Y := Y.next hb3
              have Z := Z.next hb3
              obtain ⟨x0, x1, x2⟩ := X.c3
              obtain ⟨y0, y1, y2⟩ := Y.c3
              obtain ⟨z0, z1, z2⟩ := Z.c3
              go_wp2_with fail
              refine (CV1.out _ (X.bel) (by trivial)).mono ?_; rintro e w4 ⟨rfl, hb4⟩
              have X := X.next hb4
              have Y := Y.next hb4
              have Z := Z.next hb4
              obtain ⟨x0, x1, x2⟩ := X.c3
              obtain ⟨y0, y1, y2⟩ := Y.c3
              obtain ⟨z0, z1, z2⟩ := Z.c3
              go_wp2_with fail
              refine (CV2.out _ (X.bel) (by trivial)).mono ?_; rintro e w5 ⟨rfl, hb5⟩
              have X := X.next hb5
              have Y := Y.next hb5
              have Z := Z.next hb5
              obtain ⟨x0, x1, x2⟩ := X.c3
              obtain ⟨y0, y1, y2⟩ := Y.c3
              obtain ⟨z0, z1, z2⟩ := Z.c3
              go_wp2_with fail
              refine (CV3.out _ (X.bel) (by trivial)).mono ?_; rintro e w6 ⟨rfl, hb6⟩
              have X := X.next hb6
              have Y := Y.next hb6
              have Z := Z.next hb6
              go_wp2_with fail
              go_ret
              exact ⟨rfl, X.bel⟩

end Go.Proofs.YtjppjhjfogjhaaaGreatDoor
