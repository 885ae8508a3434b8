/-
  The walk of RationalIsOrdered. No condition but the table of powers of ten.
-/
import Derived.Test.YtjppjhjfogjhaaaGreatDoorLawA
import Derived.Test.YtjppjhjfogjhaaaGreatDoorLawP
namespace Go.Proofs.YtjppjhjfogjhaaaGreatDoor
open Go.RowKit Go.Lib
set_option linter.unusedSimpArgs false
set_option linter.unusedVariables false

theorem rsg_bound (q : Rat) : -1 ≤ rsg q ∧ rsg q ≤ 1 := by
  rcases rsg_of q with ⟨_, e⟩ | ⟨_, e⟩ | ⟨_, e⟩ <;> rw [e] <;> decide

theorem fairB_yes {s : Bool} {N D : List Nat} {m l : Nat} {t : Bool} {N2 D2 : List Nat} {m2 l2 : Nat} {u : Bool} {N3 D3 : List Nat} {m3 l3 : Nat} (h : fairB s N D m l t N2 D2 m2 l2 u N3 D3 m3 l3 = true) :
    lightB m l = true ∧ lightB m2 l2 = true ∧ lightB m3 l3 = true ∧ ratOk s N D = true ∧ ratOk t N2 D2 = true ∧ ratOk u N3 D3 = true := by
  unfold fairB at h
  simp only [Bool.and_eq_true] at h
  exact ⟨h.1.1.1.1.1, h.1.1.1.1.2, h.1.1.1.2, h.1.1.2, h.1.2, h.2⟩

theorem ord_facts (x y z : Rat) : ∃ (c d e g k m sz : Int) (sm : Bool), rsg (x - y) = c ∧ rsg (y - z) = d ∧ rsg (x - z) = e ∧ rsg (y - x) = g ∧ rsg ((x + z) - (y + z)) = c ∧ rsg ((x * z) - (y * z)) = m ∧ rsg z = sz ∧ decide (x = y) = sm ∧
    (c < 0 → d < 0 → e < 0) ∧ -g = c ∧ (c == 0) = sm ∧ c * sz = m ∧ (-1 ≤ c ∧ c ≤ 1) ∧ (-1 ≤ g ∧ g ≤ 1) ∧ (-1 ≤ sz ∧ sz ≤ 1) ∧ (-1 ≤ m ∧ m ≤ 1) := by
  refine ⟨_, _, _, _, 0, _, _, _, rfl, rfl, rfl, rfl, rsg_add x y z, rfl, rfl, rfl, rsg_trans, ?_, ?_, ?_, ?_, ?_, ?_, ?_⟩
  · rw [rsg_swap]; omega
  · rw [Bool.eq_iff_iff]; simp only [beq_iff_eq, decide_eq_true_eq]; exact rsg_zero_iff x y
  · exact (rsg_mul_sub x y z).symm
  all_goals exact rsg_bound _

set_option maxHeartbeats 8000000 in
set_option maxRecDepth 100000 in
theorem walkOrdered (w : World) (hp : Pow w) (s : Bool) (N D : List Nat) (bo : Option Addr) (m ca : Nat) (co : Option Addr) (l cb : Nat) (hN1 : Sl w bo m ca (u32s N)) (hD1 : Sl w co l cb (u32s D)) (LN1 : Lim N) (LD1 : Lim D) (zb1 : bo = none → ca = 0) (zc1 : co = none → cb = 0) (t : Bool) (N2 D2 : List Nat) (bo2 : Option Addr) (m2 ca2 : Nat) (co2 : Option Addr) (l2 cb2 : Nat) (hN2 : Sl w bo2 m2 ca2 (u32s N2)) (hD2 : Sl w co2 l2 cb2 (u32s D2)) (LN2 : Lim N2) (LD2 : Lim D2) (zb2 : bo2 = none → ca2 = 0) (zc2 : co2 = none → cb2 = 0) (u : Bool) (N3 D3 : List Nat) (bo3 : Option Addr) (m3 ca3 : Nat) (co3 : Option Addr) (l3 cb3 : Nat) (hN3 : Sl w bo3 m3 ca3 (u32s N3)) (hD3 : Sl w co3 l3 cb3 (u32s D3)) (LN3 : Lim N3) (LD3 : Lim D3) (zb3 : bo3 = none → ca3 = 0) (zc3 : co3 = none → cb3 = 0) :
    Calls Tryz.prog 8 #[.agg #[.bool s, .slice bo m ca, .slice co l cb], .agg #[.bool t, .slice bo2 m2 ca2, .slice co2 l2 cb2], .agg #[.bool u, .slice bo3 m3 ca3, .slice co3 l3 cb3]] w fun e w' => e = .returned (.bool true) ∧ Below w.heap.size w w' := by
  have X : Bk w w.heap.size (.bool s) (.slice bo m ca) (.slice co l cb) (((w.alloc (.cells #[.bool s, .slice bo m ca, .slice co l cb] 24)).alloc (.cells #[.bool t, .slice bo2 m2 ca2, .slice co2 l2 cb2] 24)).alloc (.cells #[.bool u, .slice bo3 m3 ca3, .slice co3 l3 cb3] 24)) := ((Bk.start (Below.refl w.heap.size w) rfl (.bool s) (.slice bo m ca) (.slice co l cb) 24).new _).new _
  have Y : Bk w (w.heap.size + 1) (.bool t) (.slice bo2 m2 ca2) (.slice co2 l2 cb2) (((w.alloc (.cells #[.bool s, .slice bo m ca, .slice co l cb] 24)).alloc (.cells #[.bool t, .slice bo2 m2 ca2, .slice co2 l2 cb2] 24)).alloc (.cells #[.bool u, .slice bo3 m3 ca3, .slice co3 l3 cb3] 24)) := (Bk.start (below_alloc _) (by simp) _ _ _ 24).new _
  have Z : Bk w (w.heap.size + 1 + 1) (.bool u) (.slice bo3 m3 ca3) (.slice co3 l3 cb3) (((w.alloc (.cells #[.bool s, .slice bo m ca, .slice co l cb] 24)).alloc (.cells #[.bool t, .slice bo2 m2 ca2, .slice co2 l2 cb2] 24)).alloc (.cells #[.bool u, .slice bo3 m3 ca3, .slice co3 l3 cb3] 24)) := Bk.start ((below_alloc _).alloc (by simp) _) (by simp) _ _ _ 24
  have HB := X.bel
  have hfair := fun W (hb : Below w.heap.size w W) => fair_any W s N D bo m ca co l cb (hN1.next hb) (hD1.next hb) LN1 LD1 zb1 zc1 t N2 D2 bo2 m2 ca2 co2 l2 cb2 (hN2.next hb) (hD2.next hb) LN2 LD2 zb2 zc2 u N3 D3 bo3 m3 ca3 co3 l3 cb3 (hN3.next hb) (hD3.next hb) LN3 LD3 zb3 zc3
  cases hF : fairB s N D m l t N2 D2 m2 l2 u N3 D3 m3 l3 with
  | false =>
    rw [hF] at hfair
    have HF := hid hfair
    clear hF hfair
    obtain ⟨x0, x1, x2⟩ := X.c3
    obtain ⟨y0, y1, y2⟩ := Y.c3
    go_enter Tryz.func8, Tryz.ntmps8
    go_wp2_with fail
    refine (HF.out _ HB).mono ?_; rintro e w1 ⟨rfl, hb1⟩
    clear x0 x1 x2 y0 y1 y2
    replace X := X.next hb1
    replace Y := Y.next hb1
    replace HB := below_chain HB hb1
    clear hb1
    go_wp2_with fail
    refine (lawake_any _ (hp.next HB)).mono ?_; rintro e wq ⟨rfl, hbq⟩
    go_wp2_with fail
    go_ret
    exact ⟨rfl, below_chain HB hbq⟩
  | true =>
    rw [hF] at hfair
    obtain ⟨hL1, hL2, hL3, hV1, hV2, hV3⟩ := fairB_yes hF
    have HF := hid hfair
    obtain ⟨vX, fx⟩ := arg_V (s := s) hN1 hD1 LN1 LD1 zb1 zc1 hL1
    obtain ⟨vY, fy⟩ := arg_V (s := t) hN2 hD2 LN2 LD2 zb2 zc2 hL2
    obtain ⟨vZ, fz⟩ := arg_V (s := u) hN3 hD3 LN3 LD3 zb3 zc3 hL3
    have cX := arg_C hN1 hD1 LN1 LD1 zb1 zc1 hV1
    have cY := arg_C hN2 hD2 LN2 LD2 zb2 zc2 hV2
    generalize ratOf s N D = x at *
    generalize ratOf t N2 D2 = y at *
    generalize ratOf u N3 D3 = z at *
    clear hF hfair hL1 hL2 hL3 hV1 hV2 hV3 hN1 hD1 LN1 LD1 hN2 hD2 LN2 LD2 hN3 hD3 LN3 LD3
    obtain ⟨c, d, e, g, k, mm, sz, sm, h1, h2, h3, h4, h5, h6, h7, h8, i1, i2, i3, i4, ⟨b1, b2⟩, ⟨b3, b4⟩, ⟨b5, b6⟩, b7, b8⟩ := ord_facts x y z
    have H1 := hid h1; have H2 := hid h2; have H3 := hid h3; have H4 := hid h4; have H5 := hid h5; have H6 := hid h6; have H7 := hid h7; have H8 := hid h8
    have I1 := hid i1; have I2 := hid i2; have I3 := hid i3; have I4 := hid i4
    clear h1 h2 h3 h4 h5 h6 h7 h8 i1 i2 i3 i4
    obtain ⟨x0, x1, x2⟩ := X.c3
    obtain ⟨y0, y1, y2⟩ := Y.c3
    obtain ⟨z0, z1, z2⟩ := Z.c3
    go_enter Tryz.func8, Tryz.ntmps8
    go_wp2_with fail
    refine (HF.out _ HB).mono ?_; rintro e' w1 ⟨rfl, hb1⟩
    clear x0 x1 x2 y0 y1 y2 z0 z1 z2
    replace X := X.next hb1
    replace Y := Y.next hb1
    replace Z := Z.next hb1
    replace HB := below_chain HB hb1
    clear hb1
    clear HF zb1 zc1 zb2 zc2 zb3 zc3
    obtain ⟨x0, x1, x2⟩ := X.c3
    obtain ⟨y0, y1, y2⟩ := Y.c3
    go_wp2_with fail
    refine (Compare_any x y _ _ _ (vX.next HB) (vY.next HB) 6 fx fy (by decide)).mono ?_
    rw [H1.out]
    rintro e' w2 ⟨rfl, hb2⟩
    clear x0 x1 x2 y0 y1 y2
    replace X := X.next hb2
    replace Y := Y.next hb2
    replace Z := Z.next hb2
    replace HB := below_chain HB hb2
    clear hb2
    go_upto_region 4 with fail
    go_cut [30] (fun v30 wx => v30 = .bool false ∧ Bk w w.heap.size (.bool s) (.slice bo m ca) (.slice co l cb) wx ∧ Bk w (w.heap.size + 1) (.bool t) (.slice bo2 m2 ca2) (.slice co2 l2 cb2) wx ∧ Bk w (w.heap.size + 1 + 1) (.bool u) (.slice bo3 m3 ca3) (.slice co3 l3 cb3) wx)
    case first =>
      by_cases hc : c < 0
      · by_cases hd : d < 0
        · have he : e < 0 := I1.out hc hd
          have he' : decide (0 ≤ e) = false := decide_eq_false (by omega)
          obtain ⟨y0, y1, y2⟩ := Y.c3
          obtain ⟨z0, z1, z2⟩ := Z.c3
          go_wp2_with fail
          refine (Compare_any y z _ _ _ (vY.next HB) (vZ.next HB) 6 fy fz (by decide)).mono ?_
          rw [H2.out]
          rintro e' w3 ⟨rfl, hb3⟩
          clear y0 y1 y2 z0 z1 z2
          replace X := X.next hb3
          replace Y := Y.next hb3
          replace Z := Z.next hb3
          replace HB := below_chain HB hb3
          clear hb3
          obtain ⟨x0, x1, x2⟩ := X.c3
          obtain ⟨z0, z1, z2⟩ := Z.c3
          go_wp2_with fail
          refine (Compare_any x z _ _ _ (vX.next HB) (vZ.next HB) 6 fx fz (by decide)).mono ?_
          rw [H3.out]
          rintro e' w4 ⟨rfl, hb4⟩
          clear x0 x1 x2 z0 z1 z2
          replace X := X.next hb4
          replace Y := Y.next hb4
          replace Z := Z.next hb4
          replace HB := below_chain HB hb4
          clear hb4
          go_wp2_with fail
          go_meet
          exact ⟨rfl, X, Y, Z⟩
        · obtain ⟨y0, y1, y2⟩ := Y.c3
          obtain ⟨z0, z1, z2⟩ := Z.c3
          go_wp2_with fail
          refine (Compare_any y z _ _ _ (vY.next HB) (vZ.next HB) 6 fy fz (by decide)).mono ?_
          rw [H2.out]
          rintro e' w3 ⟨rfl, hb3⟩
          clear y0 y1 y2 z0 z1 z2
          replace X := X.next hb3
          replace Y := Y.next hb3
          replace Z := Z.next hb3
          replace HB := below_chain HB hb3
          clear hb3
          go_wp2_with fail
          go_meet
          exact ⟨rfl, X, Y, Z⟩
      · go_wp2_with fail
        go_meet
        exact ⟨rfl, X, Y, Z⟩
    case rest =>
      clear X Y Z HB
      obtain ⟨rfl, X, Y, Z⟩ := hcut
      have HB := X.bel
      have a1 : (c == c) = true := by simp
      have a2 : (sm == sm) = true := by simp
      have a3 : (mm == mm) = true := by simp
      have j2 := I2.out
      have j3 := I3.out
      have j4 := I4.out
      have j7 : IntKind.i64.wrap c = c := by rw [IntKind.wrap_i64]; omega
      have j8 : IntKind.i64.wrap mm = mm := by rw [IntKind.wrap_i64]; omega
      have j5 : IntKind.i64.wrap (c * sz) = mm := by rw [j4, IntKind.wrap_i64]; omega
      have j6 : wrap64 (c * sz) = mm := by rw [j4]; unfold wrap64; omega
      have HP := hp.next HB
      have VX := vX.next HB
      have VY := vY.next HB
      have VZ := vZ.next HB
      have CX := cX.next HB
      have CY := cY.next HB
      clear hp vX vY vZ cX cY I1 I2 I3 I4
      go_upto_region 6 with fail
      have hd := (Below.refl wc.heap.size wc).drew
      have hS0 : C3 w.heap.size (.bool s) (.slice bo m ca) (.slice co l cb) wc.drew ∧ C3 (w.heap.size + 1) (.bool t) (.slice bo2 m2 ca2) (.slice co2 l2 cb2) wc.drew ∧ C3 (w.heap.size + 1 + 1) (.bool u) (.slice bo3 m3 ca3) (.slice co3 l3 cb3) wc.drew := ⟨X.drew.c3, Y.drew.c3, Z.drew.c3⟩
      have hKp : ∀ w' w'', (C3 w.heap.size (.bool s) (.slice bo m ca) (.slice co l cb) w' ∧ C3 (w.heap.size + 1) (.bool t) (.slice bo2 m2 ca2) (.slice co2 l2 cb2) w' ∧ C3 (w.heap.size + 1 + 1) (.bool u) (.slice bo3 m3 ca3) (.slice co3 l3 cb3) w') → Below w'.heap.size w' w'' → (C3 w.heap.size (.bool s) (.slice bo m ca) (.slice co l cb) w'' ∧ C3 (w.heap.size + 1) (.bool t) (.slice bo2 m2 ca2) (.slice co2 l2 cb2) w'' ∧ C3 (w.heap.size + 1 + 1) (.bool u) (.slice bo3 m3 ca3) (.slice co3 l3 cb3) w'') := fun w' w'' h hb => ⟨h.1.next hb, h.2.1.next hb, h.2.2.next hb⟩
      clear X Y Z
      replace VX := VX.next hd
      replace VY := VY.next hd
      replace VZ := VZ.next hd
      replace HP := HP.next hd
      replace CX := CX.next hd
      replace CY := CY.next hd
      replace HB := HB.trans (hd.mono HB.size)
      refine wp_region_held_drew (S := (fun w' => C3 w.heap.size (.bool s) (.slice bo m ca) (.slice co l cb) w' ∧ C3 (w.heap.size + 1) (.bool t) (.slice bo2 m2 ca2) (.slice co2 l2 cb2) w' ∧ C3 (w.heap.size + 1 + 1) (.bool u) (.slice bo3 m3 ca3) (.slice co3 l3 cb3) w')) (by kernel_rfl) (hS0) (fun hHeld => ?_)
      refine wpAnyH_ready (rs := [0]) (by kernel_rfl) (by simp) (AllReadyH.cons rfl (fun K hK => ?_) AllReadyH.nil)
      go_simp
      go_at_call 12
      refine (lawake_any _ HP).mono ?_; rintro e' wx1 ⟨rfl, hb1⟩
      replace VX := VX.next hb1
      replace VY := VY.next hb1
      replace VZ := VZ.next hb1
      replace HP := HP.next hb1
      replace CX := CX.next hb1
      replace CY := CY.next hb1
      replace HB := below_chain HB hb1
      go_wp2_with fail
      refine hK.out _ _ (hKp _ _ hHeld hb1) (fun hHeld => ?_)
      clear hK K hb1
      try simp only [Act.put, List.setIfInBounds_toArray, List.set_cons_zero, List.set_cons_succ]
      refine held_take (i := 1) (d := 32) (v := ?_) rfl rfl (by kernel_rfl) (by kernel_rfl) (by kernel_rfl) (fun _ _ _ h => h) (by rfl) ?_ hHeld ?_
      rotate_left
      · intro w hSw; (try dsimp only at hSw); go_simp; with_reducible rfl
      try simp only [Act.put, List.setIfInBounds_toArray, List.set_cons_zero, List.set_cons_succ]
      refine held_take (i := 2) (d := 33) (v := ?_) rfl rfl (by kernel_rfl) (by kernel_rfl) (by kernel_rfl) (fun _ _ _ h => h) (by rfl) ?_ hHeld ?_
      rotate_left
      · intro w hSw; (try dsimp only at hSw); go_simp; with_reducible rfl
      try simp only [Act.put, List.setIfInBounds_toArray, List.set_cons_zero, List.set_cons_succ]
      refine held_take (i := 3) (d := 34) (v := ?_) rfl rfl (by kernel_rfl) (by kernel_rfl) (by kernel_rfl) (fun _ _ _ h => h) (by rfl) ?_ hHeld ?_
      rotate_left
      · intro w hSw; (try dsimp only at hSw); go_simp; with_reducible rfl
      try simp only [Act.put, List.setIfInBounds_toArray, List.set_cons_zero, List.set_cons_succ]
      refine held_take (i := 4) (d := 35) (v := ?_) rfl rfl (by kernel_rfl) (by kernel_rfl) (by kernel_rfl) (fun _ _ _ h => h) (by rfl) ?_ hHeld ?_
      rotate_left
      · intro w hSw; (try dsimp only at hSw); go_simp; with_reducible rfl
      try simp only [Act.put, List.setIfInBounds_toArray, List.set_cons_zero, List.set_cons_succ]
      refine wpAnyH_ready (rs := [5]) (by kernel_rfl) (by simp) (AllReadyH.cons rfl (fun K hK => ?_) AllReadyH.nil)
      go_simp
      go_at_call 35
      refine (Compare_any y x _ _ _ VY VX 6 fy fx (by decide)).mono ?_; rw [H4.out]; rintro e' wx2 ⟨rfl, hb2⟩
      replace VX := VX.next hb2
      replace VY := VY.next hb2
      replace VZ := VZ.next hb2
      replace HP := HP.next hb2
      replace CX := CX.next hb2
      replace CY := CY.next hb2
      replace HB := below_chain HB hb2
      go_wp2_with fail
      refine hK.out _ _ (hKp _ _ hHeld hb2) (fun hHeld => ?_)
      clear hK K hb2
      try simp only [Act.put, List.setIfInBounds_toArray, List.set_cons_zero, List.set_cons_succ]
      refine held_take (i := 6) (d := 37) (v := ?_) rfl rfl (by kernel_rfl) (by kernel_rfl) (by kernel_rfl) (fun _ _ _ h => h) (by rfl) ?_ hHeld ?_
      rotate_left
      · intro w hSw; (try dsimp only at hSw); go_simp; with_reducible rfl
      try simp only [Act.put, List.setIfInBounds_toArray, List.set_cons_zero, List.set_cons_succ]
      refine held_take (i := 7) (d := 38) (v := ?_) rfl rfl (by kernel_rfl) (by kernel_rfl) (by kernel_rfl) (fun _ _ _ h => h) (by rfl) ?_ hHeld ?_
      rotate_left
      · intro w hSw; (try dsimp only at hSw); go_simp; with_reducible rfl
      try simp only [Act.put, List.setIfInBounds_toArray, List.set_cons_zero, List.set_cons_succ]
      refine held_take (i := 8) (d := 39) (v := ?_) rfl rfl (by kernel_rfl) (by kernel_rfl) (by kernel_rfl) (fun _ _ _ h => h) (by rfl) ?_ hHeld ?_
      rotate_left
      · intro w hSw; (try dsimp only at hSw); go_simp; with_reducible rfl
      try simp only [Act.put, List.setIfInBounds_toArray, List.set_cons_zero, List.set_cons_succ]
      refine held_take (i := 9) (d := 40) (v := ?_) rfl rfl (by kernel_rfl) (by kernel_rfl) (by kernel_rfl) (fun _ _ _ h => h) (by rfl) ?_ hHeld ?_
      rotate_left
      · intro w hSw; (try dsimp only at hSw); go_simp; with_reducible rfl
      try simp only [Act.put, List.setIfInBounds_toArray, List.set_cons_zero, List.set_cons_succ]
      refine held_take (i := 10) (d := 41) (v := ?_) rfl rfl (by kernel_rfl) (by kernel_rfl) (by kernel_rfl) (fun _ _ _ h => h) (by rfl) ?_ hHeld ?_
      rotate_left
      · intro w hSw; (try dsimp only at hSw); go_simp; with_reducible rfl
      try simp only [Act.put, List.setIfInBounds_toArray, List.set_cons_zero, List.set_cons_succ]
      refine held_take (i := 11) (d := 42) (v := ?_) rfl rfl (by kernel_rfl) (by kernel_rfl) (by kernel_rfl) (fun _ _ _ h => h) (by rfl) ?_ hHeld ?_
      rotate_left
      · intro w hSw; (try dsimp only at hSw); go_simp; with_reducible rfl
      try simp only [Act.put, List.setIfInBounds_toArray, List.set_cons_zero, List.set_cons_succ]
      refine held_take (i := 12) (d := 43) (v := ?_) rfl rfl (by kernel_rfl) (by kernel_rfl) (by kernel_rfl) (fun _ _ _ h => h) (by rfl) ?_ hHeld ?_
      rotate_left
      · intro w hSw; (try dsimp only at hSw); go_simp; with_reducible rfl
      try simp only [Act.put, List.setIfInBounds_toArray, List.set_cons_zero, List.set_cons_succ]
      refine held_take (i := 13) (d := 44) (v := ?_) rfl rfl (by kernel_rfl) (by kernel_rfl) (by kernel_rfl) (fun _ _ _ h => h) (by rfl) ?_ hHeld ?_
      rotate_left
      · intro w hSw; (try dsimp only at hSw); go_simp; with_reducible rfl
      try simp only [Act.put, List.setIfInBounds_toArray, List.set_cons_zero, List.set_cons_succ]
      refine wpAnyH_ready (rs := [14]) (by kernel_rfl) (by simp) (AllReadyH.cons rfl (fun K hK => ?_) AllReadyH.nil)
      go_simp
      go_at_call 13
      refine (rSameC x y _ _ _ CX CY).mono ?_; rw [H8.out]; rintro e' wx3 ⟨rfl, hb3⟩
      replace VX := VX.next hb3
      replace VY := VY.next hb3
      replace VZ := VZ.next hb3
      replace HP := HP.next hb3
      replace CX := CX.next hb3
      replace CY := CY.next hb3
      replace HB := below_chain HB hb3
      go_wp2_with fail
      refine hK.out _ _ (hKp _ _ hHeld hb3) (fun hHeld => ?_)
      clear hK K hb3
      try simp only [Act.put, List.setIfInBounds_toArray, List.set_cons_zero, List.set_cons_succ]
      refine held_take (i := 15) (d := 46) (v := ?_) rfl rfl (by kernel_rfl) (by kernel_rfl) (by kernel_rfl) (fun _ _ _ h => h) (by rfl) ?_ hHeld ?_
      rotate_left
      · intro w hSw; (try dsimp only at hSw); go_simp; with_reducible rfl
      try simp only [Act.put, List.setIfInBounds_toArray, List.set_cons_zero, List.set_cons_succ]
      refine held_take (i := 16) (d := 47) (v := ?_) rfl rfl (by kernel_rfl) (by kernel_rfl) (by kernel_rfl) (fun _ _ _ h => h) (by rfl) ?_ hHeld ?_
      rotate_left
      · intro w hSw; (try dsimp only at hSw); go_simp; with_reducible rfl
      try simp only [Act.put, List.setIfInBounds_toArray, List.set_cons_zero, List.set_cons_succ]
      refine held_take (i := 17) (d := 48) (v := ?_) rfl rfl (by kernel_rfl) (by kernel_rfl) (by kernel_rfl) (fun _ _ _ h => h) (by rfl) ?_ hHeld ?_
      rotate_left
      · intro w hSw; (try dsimp only at hSw); go_simp; with_reducible rfl
      try simp only [Act.put, List.setIfInBounds_toArray, List.set_cons_zero, List.set_cons_succ]
      refine held_take (i := 18) (d := 49) (v := ?_) rfl rfl (by kernel_rfl) (by kernel_rfl) (by kernel_rfl) (fun _ _ _ h => h) (by rfl) ?_ hHeld ?_
      rotate_left
      · intro w hSw; (try dsimp only at hSw); go_simp; with_reducible rfl
      try simp only [Act.put, List.setIfInBounds_toArray, List.set_cons_zero, List.set_cons_succ]
      refine held_take (i := 19) (d := 50) (v := ?_) rfl rfl (by kernel_rfl) (by kernel_rfl) (by kernel_rfl) (fun _ _ _ h => h) (by rfl) ?_ hHeld ?_
      rotate_left
      · intro w hSw; (try dsimp only at hSw); go_simp; with_reducible rfl
      try simp only [Act.put, List.setIfInBounds_toArray, List.set_cons_zero, List.set_cons_succ]
      refine held_take (i := 21) (d := 52) (v := ?_) rfl rfl (by kernel_rfl) (by kernel_rfl) (by kernel_rfl) (fun _ _ _ h => h) (by rfl) ?_ hHeld ?_
      rotate_left
      · intro w hSw; (try dsimp only at hSw); go_simp; with_reducible rfl
      try simp only [Act.put, List.setIfInBounds_toArray, List.set_cons_zero, List.set_cons_succ]
      refine held_take (i := 22) (d := 53) (v := ?_) rfl rfl (by kernel_rfl) (by kernel_rfl) (by kernel_rfl) (fun _ _ _ h => h) (by rfl) ?_ hHeld ?_
      rotate_left
      · intro w hSw; (try dsimp only at hSw); go_simp; with_reducible rfl
      try simp only [Act.put, List.setIfInBounds_toArray, List.set_cons_zero, List.set_cons_succ]
      refine held_take (i := 25) (d := 56) (v := ?_) rfl rfl (by kernel_rfl) (by kernel_rfl) (by kernel_rfl) (fun _ _ _ h => h) (by rfl) ?_ hHeld ?_
      rotate_left
      · intro w hSw; (try dsimp only at hSw); go_simp; with_reducible rfl
      try simp only [Act.put, List.setIfInBounds_toArray, List.set_cons_zero, List.set_cons_succ]
      refine wpAnyH_ready (rs := [20]) (by kernel_rfl) (by simp) (AllReadyH.cons rfl (fun K hK => ?_) AllReadyH.nil)
      go_simp
      go_at_call 27
      refine (Add_any x z _ _ _ VX VZ 6 fx fz (by decide)).mono ?_; rintro e' wx4 ⟨v4, rfl, C4, hb4⟩
      have f4 : Fit 13 (x + z) := fit_add fx fz
      replace VX := VX.next hb4
      replace VY := VY.next hb4
      replace VZ := VZ.next hb4
      replace HP := HP.next hb4
      replace CX := CX.next hb4
      replace CY := CY.next hb4
      replace HB := below_chain HB hb4
      go_wp2_with fail
      refine hK.out _ _ (hKp _ _ hHeld hb4) (fun hHeld => ?_)
      clear hK K hb4
      try simp only [Act.put, List.setIfInBounds_toArray, List.set_cons_zero, List.set_cons_succ]
      refine wpAnyH_ready (rs := [23]) (by kernel_rfl) (by simp) (AllReadyH.cons rfl (fun K hK => ?_) AllReadyH.nil)
      go_simp
      go_at_call 27
      refine (Add_any y z _ _ _ VY VZ 6 fy fz (by decide)).mono ?_; rintro e' wx5 ⟨v5, rfl, C5, hb5⟩
      have f5 : Fit 13 (y + z) := fit_add fy fz
      replace VX := VX.next hb5
      replace VY := VY.next hb5
      replace VZ := VZ.next hb5
      replace HP := HP.next hb5
      replace CX := CX.next hb5
      replace CY := CY.next hb5
      replace C4 := C4.next hb5
      replace HB := below_chain HB hb5
      go_wp2_with fail
      refine hK.out _ _ (hKp _ _ hHeld hb5) (fun hHeld => ?_)
      clear hK K hb5
      try simp only [Act.put, List.setIfInBounds_toArray, List.set_cons_zero, List.set_cons_succ]
      refine wpAnyH_ready (rs := [24]) (by kernel_rfl) (by simp) (AllReadyH.cons rfl (fun K hK => ?_) AllReadyH.nil)
      go_simp
      go_at_call 35
      refine (Compare_any (x + z) (y + z) _ _ _ (C4.toV f4 (by decide)) (C5.toV f5 (by decide)) 13 f4 f5 (by decide)).mono ?_; rw [H5.out]; rintro e' wx6 ⟨rfl, hb6⟩
      replace VX := VX.next hb6
      replace VY := VY.next hb6
      replace VZ := VZ.next hb6
      replace HP := HP.next hb6
      replace CX := CX.next hb6
      replace CY := CY.next hb6
      replace C4 := C4.next hb6
      replace C5 := C5.next hb6
      replace HB := below_chain HB hb6
      go_wp2_with fail
      refine hK.out _ _ (hKp _ _ hHeld hb6) (fun hHeld => ?_)
      clear hK K hb6
      try simp only [Act.put, List.setIfInBounds_toArray, List.set_cons_zero, List.set_cons_succ]
      refine held_take (i := 26) (d := 57) (v := ?_) rfl rfl (by kernel_rfl) (by kernel_rfl) (by kernel_rfl) (fun _ _ _ h => h) (by rfl) ?_ hHeld ?_
      rotate_left
      · intro w hSw; (try dsimp only at hSw); go_simp; with_reducible rfl
      try simp only [Act.put, List.setIfInBounds_toArray, List.set_cons_zero, List.set_cons_succ]
      refine held_take (i := 27) (d := 58) (v := ?_) rfl rfl (by kernel_rfl) (by kernel_rfl) (by kernel_rfl) (fun _ _ _ h => h) (by rfl) ?_ hHeld ?_
      rotate_left
      · intro w hSw; (try dsimp only at hSw); go_simp; with_reducible rfl
      try simp only [Act.put, List.setIfInBounds_toArray, List.set_cons_zero, List.set_cons_succ]
      refine held_take (i := 28) (d := 59) (v := ?_) rfl rfl (by kernel_rfl) (by kernel_rfl) (by kernel_rfl) (fun _ _ _ h => h) (by rfl) ?_ hHeld ?_
      rotate_left
      · intro w hSw; (try dsimp only at hSw); go_simp; with_reducible rfl
      try simp only [Act.put, List.setIfInBounds_toArray, List.set_cons_zero, List.set_cons_succ]
      refine held_take (i := 29) (d := 60) (v := ?_) rfl rfl (by kernel_rfl) (by kernel_rfl) (by kernel_rfl) (fun _ _ _ h => h) (by rfl) ?_ hHeld ?_
      rotate_left
      · intro w hSw; (try dsimp only at hSw); go_simp; with_reducible rfl
      try simp only [Act.put, List.setIfInBounds_toArray, List.set_cons_zero, List.set_cons_succ]
      refine held_take (i := 30) (d := 61) (v := ?_) rfl rfl (by kernel_rfl) (by kernel_rfl) (by kernel_rfl) (fun _ _ _ h => h) (by rfl) ?_ hHeld ?_
      rotate_left
      · intro w hSw; (try dsimp only at hSw); go_simp; with_reducible rfl
      try simp only [Act.put, List.setIfInBounds_toArray, List.set_cons_zero, List.set_cons_succ]
      refine held_take (i := 32) (d := 63) (v := ?_) rfl rfl (by kernel_rfl) (by kernel_rfl) (by kernel_rfl) (fun _ _ _ h => h) (by rfl) ?_ hHeld ?_
      rotate_left
      · intro w hSw; (try dsimp only at hSw); go_simp; with_reducible rfl
      try simp only [Act.put, List.setIfInBounds_toArray, List.set_cons_zero, List.set_cons_succ]
      refine held_take (i := 33) (d := 64) (v := ?_) rfl rfl (by kernel_rfl) (by kernel_rfl) (by kernel_rfl) (fun _ _ _ h => h) (by rfl) ?_ hHeld ?_
      rotate_left
      · intro w hSw; (try dsimp only at hSw); go_simp; with_reducible rfl
      try simp only [Act.put, List.setIfInBounds_toArray, List.set_cons_zero, List.set_cons_succ]
      refine held_take (i := 36) (d := 67) (v := ?_) rfl rfl (by kernel_rfl) (by kernel_rfl) (by kernel_rfl) (fun _ _ _ h => h) (by rfl) ?_ hHeld ?_
      rotate_left
      · intro w hSw; (try dsimp only at hSw); go_simp; with_reducible rfl
      try simp only [Act.put, List.setIfInBounds_toArray, List.set_cons_zero, List.set_cons_succ]
      refine held_take (i := 37) (d := 68) (v := ?_) rfl rfl (by kernel_rfl) (by kernel_rfl) (by kernel_rfl) (fun _ _ _ h => h) (by rfl) ?_ hHeld ?_
      rotate_left
      · intro w hSw; (try dsimp only at hSw); go_simp; with_reducible rfl
      try simp only [Act.put, List.setIfInBounds_toArray, List.set_cons_zero, List.set_cons_succ]
      refine wpAnyH_ready (rs := [31]) (by kernel_rfl) (by simp) (AllReadyH.cons rfl (fun K hK => ?_) AllReadyH.nil)
      go_simp
      go_at_call 31
      refine (Mul_any x z _ _ _ VX VZ 6 fx fz (by decide)).mono ?_; rintro e' wx7 ⟨v7, rfl, C7, hb7⟩
      have f7 : Fit 12 (x * z) := fit_mul fx fz
      replace VX := VX.next hb7
      replace VY := VY.next hb7
      replace VZ := VZ.next hb7
      replace HP := HP.next hb7
      replace CX := CX.next hb7
      replace CY := CY.next hb7
      replace C4 := C4.next hb7
      replace C5 := C5.next hb7
      replace HB := below_chain HB hb7
      go_wp2_with fail
      refine hK.out _ _ (hKp _ _ hHeld hb7) (fun hHeld => ?_)
      clear hK K hb7
      try simp only [Act.put, List.setIfInBounds_toArray, List.set_cons_zero, List.set_cons_succ]
      refine wpAnyH_ready (rs := [34]) (by kernel_rfl) (by simp) (AllReadyH.cons rfl (fun K hK => ?_) AllReadyH.nil)
      go_simp
      go_at_call 31
      refine (Mul_any y z _ _ _ VY VZ 6 fy fz (by decide)).mono ?_; rintro e' wx8 ⟨v8, rfl, C8, hb8⟩
      have f8 : Fit 12 (y * z) := fit_mul fy fz
      replace VX := VX.next hb8
      replace VY := VY.next hb8
      replace VZ := VZ.next hb8
      replace HP := HP.next hb8
      replace CX := CX.next hb8
      replace CY := CY.next hb8
      replace C4 := C4.next hb8
      replace C5 := C5.next hb8
      replace C7 := C7.next hb8
      replace HB := below_chain HB hb8
      go_wp2_with fail
      refine hK.out _ _ (hKp _ _ hHeld hb8) (fun hHeld => ?_)
      clear hK K hb8
      try simp only [Act.put, List.setIfInBounds_toArray, List.set_cons_zero, List.set_cons_succ]
      refine wpAnyH_ready (rs := [35]) (by kernel_rfl) (by simp) (AllReadyH.cons rfl (fun K hK => ?_) AllReadyH.nil)
      go_simp
      go_at_call 35
      refine (Compare_any (x * z) (y * z) _ _ _ (C7.toV f7 (by decide)) (C8.toV f8 (by decide)) 12 f7 f8 (by decide)).mono ?_; rw [H6.out]; rintro e' wx9 ⟨rfl, hb9⟩
      replace VX := VX.next hb9
      replace VY := VY.next hb9
      replace VZ := VZ.next hb9
      replace HP := HP.next hb9
      replace CX := CX.next hb9
      replace CY := CY.next hb9
      replace C4 := C4.next hb9
      replace C5 := C5.next hb9
      replace C7 := C7.next hb9
      replace C8 := C8.next hb9
      replace HB := below_chain HB hb9
      go_wp2_with fail
      refine hK.out _ _ (hKp _ _ hHeld hb9) (fun hHeld => ?_)
      clear hK K hb9
      try simp only [Act.put, List.setIfInBounds_toArray, List.set_cons_zero, List.set_cons_succ]
      refine wpAnyH_ready (rs := [38]) (by kernel_rfl) (by simp) (AllReadyH.cons rfl (fun K hK => ?_) AllReadyH.nil)
      go_simp
      go_at_call 37
      refine (Sign_any z _ _ VZ).mono ?_; rw [H7.out]; rintro e' wx10 ⟨rfl, hb10⟩
      replace VX := VX.next hb10
      replace VY := VY.next hb10
      replace VZ := VZ.next hb10
      replace HP := HP.next hb10
      replace CX := CX.next hb10
      replace CY := CY.next hb10
      replace C4 := C4.next hb10
      replace C5 := C5.next hb10
      replace C7 := C7.next hb10
      replace C8 := C8.next hb10
      replace HB := below_chain HB hb10
      go_wp2_with fail
      refine hK.out _ _ (hKp _ _ hHeld hb10) (fun hHeld => ?_)
      clear hK K hb10
      try simp only [Act.put, List.setIfInBounds_toArray, List.set_cons_zero, List.set_cons_succ]
      refine held_take (i := 39) (d := 70) (v := ?_) rfl rfl (by kernel_rfl) (by kernel_rfl) (by kernel_rfl) (fun _ _ _ h => h) (by rfl) ?_ hHeld ?_
      rotate_left
      · intro w hSw; (try dsimp only at hSw); go_simp; with_reducible rfl
      try simp only [Act.put, List.setIfInBounds_toArray, List.set_cons_zero, List.set_cons_succ]
      refine held_take (i := 40) (d := 71) (v := ?_) rfl rfl (by kernel_rfl) (by kernel_rfl) (by kernel_rfl) (fun _ _ _ h => h) (by rfl) ?_ hHeld ?_
      rotate_left
      · intro w hSw; (try dsimp only at hSw); go_simp; with_reducible rfl
      try simp only [Act.put, List.setIfInBounds_toArray, List.set_cons_zero, List.set_cons_succ]
      refine held_take (i := 41) (d := 72) (v := ?_) rfl rfl (by kernel_rfl) (by kernel_rfl) (by kernel_rfl) (fun _ _ _ h => h) (by rfl) ?_ hHeld ?_
      rotate_left
      · intro w hSw; (try dsimp only at hSw); go_simp; with_reducible rfl
      try simp only [Act.put, List.setIfInBounds_toArray, List.set_cons_zero, List.set_cons_succ]
      refine held_take (i := 42) (d := 6) (v := ?_) rfl rfl (by kernel_rfl) (by kernel_rfl) (by kernel_rfl) (fun _ _ _ h => h) (by rfl) ?_ hHeld ?_
      rotate_left
      · intro w hSw; (try dsimp only at hSw); go_simp; with_reducible rfl
      try simp only [Act.put, List.setIfInBounds_toArray, List.set_cons_zero, List.set_cons_succ]
      refine wpAnyH_done (by kernel_rfl) ?_ _
      go_wp2_with fail
      go_ret
      exact ⟨rfl, HB⟩

end Go.Proofs.YtjppjhjfogjhaaaGreatDoor
