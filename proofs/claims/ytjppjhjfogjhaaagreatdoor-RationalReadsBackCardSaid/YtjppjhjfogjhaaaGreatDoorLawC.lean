/-
  The walk of RationalValues. No condition but the table of powers of ten.
-/
import Derived.Test.YtjppjhjfogjhaaaGreatDoorLawA
namespace Go.Proofs.YtjppjhjfogjhaaaGreatDoor
open Go.RowKit Go.Lib
set_option linter.unusedSimpArgs false
set_option linter.unusedVariables false

theorem i64_wf {a : Int} (h : (Lit.int .i64 a).wf = true) : -9223372036854775808 ≤ a ∧ a ≤ 9223372036854775807 := by
  simpa [Lit.wf, IntKind.min, IntKind.max, IntKind.bits, IntKind.signed] using h

set_option maxHeartbeats 8000000 in
set_option maxRecDepth 100000 in
theorem walkValues (w : World) (hp : Pow w) (s : Bool) (N D : List Nat) (bo : Option Addr) (m ca : Nat) (co : Option Addr) (l cb : Nat) (hN1 : Sl w bo m ca (u32s N)) (hD1 : Sl w co l cb (u32s D)) (LN1 : Lim N) (LD1 : Lim D) (zb1 : bo = none → ca = 0) (zc1 : co = none → cb = 0) (t : Bool) (N2 D2 : List Nat) (bo2 : Option Addr) (m2 ca2 : Nat) (co2 : Option Addr) (l2 cb2 : Nat) (hN2 : Sl w bo2 m2 ca2 (u32s N2)) (hD2 : Sl w co2 l2 cb2 (u32s D2)) (LN2 : Lim N2) (LD2 : Lim D2) (zb2 : bo2 = none → ca2 = 0) (zc2 : co2 = none → cb2 = 0) (a : Int) (wa : (Lit.int .i64 a).wf = true) (d : Int) (wd : (Lit.int .i64 d).wf = true) :
    Calls Tryz.prog 10 #[.agg #[.bool s, .slice bo m ca, .slice co l cb], .agg #[.bool t, .slice bo2 m2 ca2, .slice co2 l2 cb2], .int .i64 a, .int .i64 d] w fun e w' => e = .returned (.bool true) ∧ Below w.heap.size w w' := by
  obtain ⟨ha1, ha2⟩ := i64_wf wa
  obtain ⟨hd1, hd2⟩ := i64_wf wd
  clear wa wd
  have bn1 := hN1.bound
  have bd1 := hD1.bound
  have bn2 := hN2.bound
  have bd2 := hD2.bound
  have X : Bk w w.heap.size (.bool s) (.slice bo m ca) (.slice co l cb) ((w.alloc (.cells #[.bool s, .slice bo m ca, .slice co l cb] 24)).alloc (.cells #[.bool t, .slice bo2 m2 ca2, .slice co2 l2 cb2] 24)) := (Bk.start (Below.refl w.heap.size w) rfl (.bool s) (.slice bo m ca) (.slice co l cb) 24).new _
  have Y : Bk w (w.heap.size + 1) (.bool t) (.slice bo2 m2 ca2) (.slice co2 l2 cb2) ((w.alloc (.cells #[.bool s, .slice bo m ca, .slice co l cb] 24)).alloc (.cells #[.bool t, .slice bo2 m2 ca2, .slice co2 l2 cb2] 24)) := Bk.start (below_alloc _) (by simp) _ _ _ 24
  have HB := X.bel
  cases hL1 : lightB m l with
  | false =>
    have HL1 := hid hL1
    clear hL1
    go_enter Tryz.func10, Tryz.ntmps10
    go_wp2_with fail
    refine (llight_any s bo co m ca l cb bn1 bd1 _).mono ?_; rintro e w1 ⟨rfl, hb1⟩
    rw [HL1.out]
    replace X := X.next hb1
    replace Y := Y.next hb1
    replace HB := below_chain HB hb1
    clear hb1
    go_wp2_with fail
    refine (lawake_any _ (hp.next HB)).mono ?_; rintro e wq ⟨rfl, hbq⟩
    go_wp2_with fail
    go_ret
    exact ⟨rfl, below_chain HB hbq⟩
  | true =>
    cases hL2 : lightB m2 l2 with
    | false =>
      have HL1 := hid hL1
      have HL2 := hid hL2
      clear hL1 hL2
      go_enter Tryz.func10, Tryz.ntmps10
      go_wp2_with fail
      refine (llight_any s bo co m ca l cb bn1 bd1 _).mono ?_; rintro e w1 ⟨rfl, hb1⟩
      rw [HL1.out]
      replace X := X.next hb1
      replace Y := Y.next hb1
      replace HB := below_chain HB hb1
      clear hb1
      obtain ⟨y0, y1, y2⟩ := Y.c3
      go_wp2_with fail
      refine (llight_any t bo2 co2 m2 ca2 l2 cb2 bn2 bd2 _).mono ?_; rintro e w2 ⟨rfl, hb2⟩
      rw [HL2.out]
      clear y0 y1 y2
      replace X := X.next hb2
      replace Y := Y.next hb2
      replace HB := below_chain HB hb2
      clear hb2
      go_wp2_with fail
      refine (lawake_any _ (hp.next HB)).mono ?_; rintro e wq ⟨rfl, hbq⟩
      go_wp2_with fail
      go_ret
      exact ⟨rfl, below_chain HB hbq⟩
    | true =>
      obtain ⟨VX, fx⟩ := arg_V (s := s) hN1 hD1 LN1 LD1 zb1 zc1 hL1
      obtain ⟨VY, fy⟩ := arg_V (s := t) hN2 hD2 LN2 LD2 zb2 zc2 hL2
      obtain ⟨hm6, hl6⟩ := lightB_yes hL1
      have HL1 := hid hL1
      have HL2 := hid hL2
      obtain ⟨ok, hok⟩ : ∃ b, ratOk s N D = b := ⟨_, rfl⟩
      have HO := hid hok
      clear hok
      generalize ratOf s N D = x at *
      generalize ratOf t N2 D2 = y at *
      have SN := hN1.next HB
      have SD := hD1.next HB
      clear hL1 hL2 hN1 hD1 hN2 hD2 LN2 LD2
      replace VX := VX.next HB
      replace VY := VY.next HB
      go_enter Tryz.func10, Tryz.ntmps10
      go_wp2_with fail
      refine (llight_any s bo co m ca l cb bn1 bd1 _).mono ?_; rintro e w1 ⟨rfl, hb1⟩
      rw [HL1.out]
      replace X := X.next hb1
      replace Y := Y.next hb1
      replace VX := VX.next hb1
      replace VY := VY.next hb1
      replace SN := SN.next hb1
      replace SD := SD.next hb1
      replace HB := below_chain HB hb1
      clear hb1
      obtain ⟨y0, y1, y2⟩ := Y.c3
      go_wp2_with fail
      refine (llight_any t bo2 co2 m2 ca2 l2 cb2 bn2 bd2 _).mono ?_; rintro e w2 ⟨rfl, hb2⟩
      rw [HL2.out]
      clear y0 y1 y2
      replace X := X.next hb2
      replace Y := Y.next hb2
      replace VX := VX.next hb2
      replace VY := VY.next hb2
      replace SN := SN.next hb2
      replace SD := SD.next hb2
      replace HB := below_chain HB hb2
      clear hb2
      have HP := hp.next HB
      clear hp bn1 bd1 bn2 bd2 HL1 HL2 zb2 zc2
      obtain ⟨c, hc⟩ : ∃ c, makeErr d = c := ⟨_, rfl⟩
      have HC := hid hc
      obtain ⟨Q, hq⟩ : ∃ q, makeRat a d = q := ⟨_, rfl⟩
      have HQ := hid hq
      obtain ⟨vv, hvv⟩ : ∃ v, wholeV x = v := ⟨_, rfl⟩
      have HV := hid hvv
      obtain ⟨vo, hvo⟩ : ∃ b, wholeOk x = b := ⟨_, rfl⟩
      have HW := hid hvo
      obtain ⟨cm, hcm⟩ : ∃ c, rsg (x - y) = c := ⟨_, rfl⟩
      have HM := hid hcm
      obtain ⟨sg, hsg⟩ : ∃ c, rsg x = c := ⟨_, rfl⟩
      have HS := hid hsg
      clear hc hq hvv hvo hcm hsg
      have e1 : (c == c) = true := by simp
      have e2 : (vv == vv) = true := by simp
      have e3 : (vo == vo) = true := by simp
      have e4 : (cm == cm) = true := by simp
      have e5 : (sg == sg) = true := by simp
      have e6 : (ok == ok) = true := by simp
      go_wp2_with fail
      refine (Make_any a d ha1 ha2 hd1 hd2 _).mono ?_
      rw [HC.out, HQ.out]
      rintro e w3 ⟨v3, rfl, CA, hb3⟩
      obtain ⟨rb, ro, rn, rc, so, sn, sc, rfl⟩ := CA.shape
      replace X := X.next hb3
      replace Y := Y.next hb3
      replace VX := VX.next hb3
      replace VY := VY.next hb3
      replace SN := SN.next hb3
      replace SD := SD.next hb3
      replace HP := HP.next hb3
      replace HB := below_chain HB hb3
      clear hb3
      have hb4 : Below w3.heap.size w3 (w3.alloc (.cells #[.bool rb, .slice ro rn rc, .slice so sn sc] 24)) := below_alloc _
      have A := Bk.start HB rfl (.bool rb) (.slice ro rn rc) (.slice so sn sc) 24
      replace X := X.next hb4
      replace Y := Y.next hb4
      replace VX := VX.next hb4
      replace VY := VY.next hb4
      replace SN := SN.next hb4
      replace SD := SD.next hb4
      replace HP := HP.next hb4
      replace CA := CA.next hb4
      replace HB := below_chain HB hb4
      clear hb4
      go_wp2_with fail
      refine (rMake_any a d ha1 ha2 hd1 hd2 _).mono ?_
      rw [HC.out, HQ.out]
      rintro e w5 ⟨v5, rfl, CB, hb5⟩
      obtain ⟨tb, to', tn, tc, uo, un, uc, rfl⟩ := CB.shape
      replace X := X.next hb5
      replace Y := Y.next hb5
      replace VX := VX.next hb5
      replace VY := VY.next hb5
      replace SN := SN.next hb5
      replace SD := SD.next hb5
      replace HP := HP.next hb5
      replace A := A.next hb5
      replace CA := CA.next hb5
      replace HB := below_chain HB hb5
      clear hb5
      have hb6 : Below w5.heap.size w5 (w5.alloc (.cells #[.bool tb, .slice to' tn tc, .slice uo un uc] 24)) := below_alloc _
      have B := Bk.start HB rfl (.bool tb) (.slice to' tn tc) (.slice uo un uc) 24
      replace X := X.next hb6
      replace Y := Y.next hb6
      replace VX := VX.next hb6
      replace VY := VY.next hb6
      replace SN := SN.next hb6
      replace SD := SD.next hb6
      replace HP := HP.next hb6
      replace A := A.next hb6
      replace CA := CA.next hb6
      replace CB := CB.next hb6
      replace HB := below_chain HB hb6
      clear hb6
      obtain ⟨x0, x1, x2⟩ := X.c3
      go_wp2_with fail
      refine (Whole_any x _ _ VX).mono ?_
      unfold WholeR
      rw [HV.out, HW.out]
      rintro e w7 ⟨rfl, hb7⟩
      clear x0 x1 x2
      replace X := X.next hb7
      replace Y := Y.next hb7
      replace VX := VX.next hb7
      replace VY := VY.next hb7
      replace SN := SN.next hb7
      replace SD := SD.next hb7
      replace HP := HP.next hb7
      replace A := A.next hb7
      replace B := B.next hb7
      replace CA := CA.next hb7
      replace CB := CB.next hb7
      replace HB := below_chain HB hb7
      clear hb7
      obtain ⟨x0, x1, x2⟩ := X.c3
      go_wp2_with fail
      refine (rWhole_any x _ _ VX).mono ?_
      unfold WholeR
      rw [HV.out, HW.out]
      rintro e w8 ⟨rfl, hb8⟩
      clear x0 x1 x2
      replace X := X.next hb8
      replace Y := Y.next hb8
      replace VX := VX.next hb8
      replace VY := VY.next hb8
      replace SN := SN.next hb8
      replace SD := SD.next hb8
      replace HP := HP.next hb8
      replace A := A.next hb8
      replace B := B.next hb8
      replace CA := CA.next hb8
      replace CB := CB.next hb8
      replace HB := below_chain HB hb8
      clear hb8
      go_upto_region 7 with fail
      have hd := (Below.refl w8.heap.size w8).drew
      have hS0 : C3 w.heap.size (.bool s) (.slice bo m ca) (.slice co l cb) w8.drew ∧ C3 (w.heap.size + 1) (.bool t) (.slice bo2 m2 ca2) (.slice co2 l2 cb2) w8.drew ∧ C3 w3.heap.size (.bool rb) (.slice ro rn rc) (.slice so sn sc) w8.drew ∧ C3 w5.heap.size (.bool tb) (.slice to' tn tc) (.slice uo un uc) w8.drew := ⟨X.drew.c3, Y.drew.c3, A.drew.c3, B.drew.c3⟩
      have hKp : ∀ w' w'', (C3 w.heap.size (.bool s) (.slice bo m ca) (.slice co l cb) w' ∧ C3 (w.heap.size + 1) (.bool t) (.slice bo2 m2 ca2) (.slice co2 l2 cb2) w' ∧ C3 w3.heap.size (.bool rb) (.slice ro rn rc) (.slice so sn sc) w' ∧ C3 w5.heap.size (.bool tb) (.slice to' tn tc) (.slice uo un uc) w') → Below w'.heap.size w' w'' → (C3 w.heap.size (.bool s) (.slice bo m ca) (.slice co l cb) w'' ∧ C3 (w.heap.size + 1) (.bool t) (.slice bo2 m2 ca2) (.slice co2 l2 cb2) w'' ∧ C3 w3.heap.size (.bool rb) (.slice ro rn rc) (.slice so sn sc) w'' ∧ C3 w5.heap.size (.bool tb) (.slice to' tn tc) (.slice uo un uc) w'') := fun w' w'' h hb => ⟨h.1.next hb, h.2.1.next hb, h.2.2.1.next hb, h.2.2.2.next hb⟩
      clear X Y A B
      replace VX := VX.next hd
      replace VY := VY.next hd
      replace SN := SN.next hd
      replace SD := SD.next hd
      replace HP := HP.next hd
      replace CA := CA.next hd
      replace CB := CB.next hd
      replace HB := HB.trans (hd.mono HB.size)
      refine wp_region_held_drew (S := (fun w' => C3 w.heap.size (.bool s) (.slice bo m ca) (.slice co l cb) w' ∧ C3 (w.heap.size + 1) (.bool t) (.slice bo2 m2 ca2) (.slice co2 l2 cb2) w' ∧ C3 w3.heap.size (.bool rb) (.slice ro rn rc) (.slice so sn sc) w' ∧ C3 w5.heap.size (.bool tb) (.slice to' tn tc) (.slice uo un uc) w')) (by kernel_rfl) (hS0) (fun hHeld => ?_)
      refine wpAnyH_ready (rs := [0]) (by kernel_rfl) (by simp) (AllReadyH.cons rfl (fun K hK => ?_) AllReadyH.nil)
      go_simp
      go_at_call 12
      refine (lawake_any _ HP).mono ?_; rintro e wx1 ⟨rfl, hb1⟩
      replace VX := VX.next hb1
      replace VY := VY.next hb1
      replace SN := SN.next hb1
      replace SD := SD.next hb1
      replace HP := HP.next hb1
      replace CA := CA.next hb1
      replace CB := CB.next hb1
      replace HB := below_chain HB hb1
      go_wp2_with fail
      refine hK.out _ _ (hKp _ _ hHeld hb1) (fun hHeld => ?_)
      clear hK K hb1
      try simp only [Act.put, List.setIfInBounds_toArray, List.set_cons_zero, List.set_cons_succ]
      refine held_take (i := 1) (d := 49) (v := ?_) rfl rfl (by kernel_rfl) (by kernel_rfl) (by kernel_rfl) (fun _ _ _ h => h) (by rfl) ?_ hHeld ?_
      rotate_left
      · intro w hSw; (try dsimp only at hSw); go_simp; with_reducible rfl
      try simp only [Act.put, List.setIfInBounds_toArray, List.set_cons_zero, List.set_cons_succ]
      refine held_take (i := 2) (d := 50) (v := ?_) rfl rfl (by kernel_rfl) (by kernel_rfl) (by kernel_rfl) (fun _ _ _ h => h) (by rfl) ?_ hHeld ?_
      rotate_left
      · intro w hSw; (try dsimp only at hSw); go_simp; with_reducible rfl
      try simp only [Act.put, List.setIfInBounds_toArray, List.set_cons_zero, List.set_cons_succ]
      refine held_take (i := 4) (d := 52) (v := ?_) rfl rfl (by kernel_rfl) (by kernel_rfl) (by kernel_rfl) (fun _ _ _ h => h) (by rfl) ?_ hHeld ?_
      rotate_left
      · intro w hSw; (try dsimp only at hSw); go_simp; with_reducible rfl
      try simp only [Act.put, List.setIfInBounds_toArray, List.set_cons_zero, List.set_cons_succ]
      refine wpAnyH_ready (rs := [3]) (by kernel_rfl) (by simp) (AllReadyH.cons rfl (fun K hK => ?_) AllReadyH.nil)
      go_simp
      go_at_call 36
      refine (Valid_any s N D LN1 LD1 bo co m l ca cb _ SN SD zb1 zc1 (by omega) (by omega)).mono ?_; rw [HO.out]; rintro e wx2 ⟨rfl, hb2⟩
      replace VX := VX.next hb2
      replace VY := VY.next hb2
      replace SN := SN.next hb2
      replace SD := SD.next hb2
      replace HP := HP.next hb2
      replace CA := CA.next hb2
      replace CB := CB.next hb2
      replace HB := below_chain HB hb2
      go_wp2_with fail
      refine hK.out _ _ (hKp _ _ hHeld hb2) (fun hHeld => ?_)
      clear hK K hb2
      try simp only [Act.put, List.setIfInBounds_toArray, List.set_cons_zero, List.set_cons_succ]
      refine wpAnyH_ready (rs := [5]) (by kernel_rfl) (by simp) (AllReadyH.cons rfl (fun K hK => ?_) AllReadyH.nil)
      go_simp
      go_at_call 22
      refine (rValid_any s N D LN1 LD1 bo co m l ca cb _ SN SD zb1 zc1 (by omega) (by omega)).mono ?_; rw [HO.out]; rintro e wx3 ⟨rfl, hb3⟩
      replace VX := VX.next hb3
      replace VY := VY.next hb3
      replace SN := SN.next hb3
      replace SD := SD.next hb3
      replace HP := HP.next hb3
      replace CA := CA.next hb3
      replace CB := CB.next hb3
      replace HB := below_chain HB hb3
      go_wp2_with fail
      refine hK.out _ _ (hKp _ _ hHeld hb3) (fun hHeld => ?_)
      clear hK K hb3
      try simp only [Act.put, List.setIfInBounds_toArray, List.set_cons_zero, List.set_cons_succ]
      refine held_take (i := 6) (d := 54) (v := ?_) rfl rfl (by kernel_rfl) (by kernel_rfl) (by kernel_rfl) (fun _ _ _ h => h) (by rfl) ?_ hHeld ?_
      rotate_left
      · intro w hSw; (try dsimp only at hSw); go_simp; with_reducible rfl
      try simp only [Act.put, List.setIfInBounds_toArray, List.set_cons_zero, List.set_cons_succ]
      refine held_take (i := 7) (d := 55) (v := ?_) rfl rfl (by kernel_rfl) (by kernel_rfl) (by kernel_rfl) (fun _ _ _ h => h) (by rfl) ?_ hHeld ?_
      rotate_left
      · intro w hSw; (try dsimp only at hSw); go_simp; with_reducible rfl
      try simp only [Act.put, List.setIfInBounds_toArray, List.set_cons_zero, List.set_cons_succ]
      refine held_take (i := 8) (d := 56) (v := ?_) rfl rfl (by kernel_rfl) (by kernel_rfl) (by kernel_rfl) (fun _ _ _ h => h) (by rfl) ?_ hHeld ?_
      rotate_left
      · intro w hSw; (try dsimp only at hSw); go_simp; with_reducible rfl
      try simp only [Act.put, List.setIfInBounds_toArray, List.set_cons_zero, List.set_cons_succ]
      refine held_take (i := 9) (d := 57) (v := ?_) rfl rfl (by kernel_rfl) (by kernel_rfl) (by kernel_rfl) (fun _ _ _ h => h) (by rfl) ?_ hHeld ?_
      rotate_left
      · intro w hSw; (try dsimp only at hSw); go_simp; with_reducible rfl
      try simp only [Act.put, List.setIfInBounds_toArray, List.set_cons_zero, List.set_cons_succ]
      refine held_take (i := 10) (d := 58) (v := ?_) rfl rfl (by kernel_rfl) (by kernel_rfl) (by kernel_rfl) (fun _ _ _ h => h) (by rfl) ?_ hHeld ?_
      rotate_left
      · intro w hSw; (try dsimp only at hSw); go_simp; with_reducible rfl
      try simp only [Act.put, List.setIfInBounds_toArray, List.set_cons_zero, List.set_cons_succ]
      refine wpAnyH_ready (rs := [11]) (by kernel_rfl) (by simp) (AllReadyH.cons rfl (fun K hK => ?_) AllReadyH.nil)
      go_simp
      go_at_call 13
      refine (rSameE Q Q rfl _ _ _ CA CB).mono ?_; rintro e wx4 ⟨rfl, hb4⟩
      replace VX := VX.next hb4
      replace VY := VY.next hb4
      replace SN := SN.next hb4
      replace SD := SD.next hb4
      replace HP := HP.next hb4
      replace CA := CA.next hb4
      replace CB := CB.next hb4
      replace HB := below_chain HB hb4
      go_wp2_with fail
      refine hK.out _ _ (hKp _ _ hHeld hb4) (fun hHeld => ?_)
      clear hK K hb4
      try simp only [Act.put, List.setIfInBounds_toArray, List.set_cons_zero, List.set_cons_succ]
      refine held_take (i := 12) (d := 60) (v := ?_) rfl rfl (by kernel_rfl) (by kernel_rfl) (by kernel_rfl) (fun _ _ _ h => h) (by rfl) ?_ hHeld ?_
      rotate_left
      · intro w hSw; (try dsimp only at hSw); go_simp; with_reducible rfl
      try simp only [Act.put, List.setIfInBounds_toArray, List.set_cons_zero, List.set_cons_succ]
      refine held_take (i := 13) (d := 61) (v := ?_) rfl rfl (by kernel_rfl) (by kernel_rfl) (by kernel_rfl) (fun _ _ _ h => h) (by rfl) ?_ hHeld ?_
      rotate_left
      · intro w hSw; (try dsimp only at hSw); go_simp; with_reducible rfl
      try simp only [Act.put, List.setIfInBounds_toArray, List.set_cons_zero, List.set_cons_succ]
      refine held_take (i := 14) (d := 62) (v := ?_) rfl rfl (by kernel_rfl) (by kernel_rfl) (by kernel_rfl) (fun _ _ _ h => h) (by rfl) ?_ hHeld ?_
      rotate_left
      · intro w hSw; (try dsimp only at hSw); go_simp; with_reducible rfl
      try simp only [Act.put, List.setIfInBounds_toArray, List.set_cons_zero, List.set_cons_succ]
      refine held_take (i := 15) (d := 63) (v := ?_) rfl rfl (by kernel_rfl) (by kernel_rfl) (by kernel_rfl) (fun _ _ _ h => h) (by rfl) ?_ hHeld ?_
      rotate_left
      · intro w hSw; (try dsimp only at hSw); go_simp; with_reducible rfl
      try simp only [Act.put, List.setIfInBounds_toArray, List.set_cons_zero, List.set_cons_succ]
      refine held_take (i := 16) (d := 64) (v := ?_) rfl rfl (by kernel_rfl) (by kernel_rfl) (by kernel_rfl) (fun _ _ _ h => h) (by rfl) ?_ hHeld ?_
      rotate_left
      · intro w hSw; (try dsimp only at hSw); go_simp; with_reducible rfl
      try simp only [Act.put, List.setIfInBounds_toArray, List.set_cons_zero, List.set_cons_succ]
      refine held_take (i := 17) (d := 65) (v := ?_) rfl rfl (by kernel_rfl) (by kernel_rfl) (by kernel_rfl) (fun _ _ _ h => h) (by rfl) ?_ hHeld ?_
      rotate_left
      · intro w hSw; (try dsimp only at hSw); go_simp; with_reducible rfl
      try simp only [Act.put, List.setIfInBounds_toArray, List.set_cons_zero, List.set_cons_succ]
      refine held_take (i := 18) (d := 66) (v := ?_) rfl rfl (by kernel_rfl) (by kernel_rfl) (by kernel_rfl) (fun _ _ _ h => h) (by rfl) ?_ hHeld ?_
      rotate_left
      · intro w hSw; (try dsimp only at hSw); go_simp; with_reducible rfl
      try simp only [Act.put, List.setIfInBounds_toArray, List.set_cons_zero, List.set_cons_succ]
      refine held_take (i := 19) (d := 67) (v := ?_) rfl rfl (by kernel_rfl) (by kernel_rfl) (by kernel_rfl) (fun _ _ _ h => h) (by rfl) ?_ hHeld ?_
      rotate_left
      · intro w hSw; (try dsimp only at hSw); go_simp; with_reducible rfl
      try simp only [Act.put, List.setIfInBounds_toArray, List.set_cons_zero, List.set_cons_succ]
      refine held_take (i := 20) (d := 68) (v := ?_) rfl rfl (by kernel_rfl) (by kernel_rfl) (by kernel_rfl) (fun _ _ _ h => h) (by rfl) ?_ hHeld ?_
      rotate_left
      · intro w hSw; (try dsimp only at hSw); go_simp; with_reducible rfl
      try simp only [Act.put, List.setIfInBounds_toArray, List.set_cons_zero, List.set_cons_succ]
      refine held_take (i := 22) (d := 70) (v := ?_) rfl rfl (by kernel_rfl) (by kernel_rfl) (by kernel_rfl) (fun _ _ _ h => h) (by rfl) ?_ hHeld ?_
      rotate_left
      · intro w hSw; (try dsimp only at hSw); go_simp; with_reducible rfl
      try simp only [Act.put, List.setIfInBounds_toArray, List.set_cons_zero, List.set_cons_succ]
      refine held_take (i := 23) (d := 71) (v := ?_) rfl rfl (by kernel_rfl) (by kernel_rfl) (by kernel_rfl) (fun _ _ _ h => h) (by rfl) ?_ hHeld ?_
      rotate_left
      · intro w hSw; (try dsimp only at hSw); go_simp; with_reducible rfl
      try simp only [Act.put, List.setIfInBounds_toArray, List.set_cons_zero, List.set_cons_succ]
      refine wpAnyH_ready (rs := [21]) (by kernel_rfl) (by simp) (AllReadyH.cons rfl (fun K hK => ?_) AllReadyH.nil)
      go_simp
      go_at_call 35
      refine (Compare_any x y _ _ _ VX VY 6 fx fy (by decide)).mono ?_; rw [HM.out]; rintro e wx5 ⟨rfl, hb5⟩
      replace VX := VX.next hb5
      replace VY := VY.next hb5
      replace SN := SN.next hb5
      replace SD := SD.next hb5
      replace HP := HP.next hb5
      replace CA := CA.next hb5
      replace CB := CB.next hb5
      replace HB := below_chain HB hb5
      go_wp2_with fail
      refine hK.out _ _ (hKp _ _ hHeld hb5) (fun hHeld => ?_)
      clear hK K hb5
      try simp only [Act.put, List.setIfInBounds_toArray, List.set_cons_zero, List.set_cons_succ]
      refine wpAnyH_ready (rs := [24]) (by kernel_rfl) (by simp) (AllReadyH.cons rfl (fun K hK => ?_) AllReadyH.nil)
      go_simp
      go_at_call 42
      refine (rCompare_any x y _ _ _ VX VY 6 fx fy (by decide)).mono ?_; rw [HM.out]; rintro e wx6 ⟨rfl, hb6⟩
      replace VX := VX.next hb6
      replace VY := VY.next hb6
      replace SN := SN.next hb6
      replace SD := SD.next hb6
      replace HP := HP.next hb6
      replace CA := CA.next hb6
      replace CB := CB.next hb6
      replace HB := below_chain HB hb6
      go_wp2_with fail
      refine hK.out _ _ (hKp _ _ hHeld hb6) (fun hHeld => ?_)
      clear hK K hb6
      try simp only [Act.put, List.setIfInBounds_toArray, List.set_cons_zero, List.set_cons_succ]
      refine held_take (i := 25) (d := 73) (v := ?_) rfl rfl (by kernel_rfl) (by kernel_rfl) (by kernel_rfl) (fun _ _ _ h => h) (by rfl) ?_ hHeld ?_
      rotate_left
      · intro w hSw; (try dsimp only at hSw); go_simp; with_reducible rfl
      try simp only [Act.put, List.setIfInBounds_toArray, List.set_cons_zero, List.set_cons_succ]
      refine held_take (i := 26) (d := 74) (v := ?_) rfl rfl (by kernel_rfl) (by kernel_rfl) (by kernel_rfl) (fun _ _ _ h => h) (by rfl) ?_ hHeld ?_
      rotate_left
      · intro w hSw; (try dsimp only at hSw); go_simp; with_reducible rfl
      try simp only [Act.put, List.setIfInBounds_toArray, List.set_cons_zero, List.set_cons_succ]
      refine held_take (i := 27) (d := 75) (v := ?_) rfl rfl (by kernel_rfl) (by kernel_rfl) (by kernel_rfl) (fun _ _ _ h => h) (by rfl) ?_ hHeld ?_
      rotate_left
      · intro w hSw; (try dsimp only at hSw); go_simp; with_reducible rfl
      try simp only [Act.put, List.setIfInBounds_toArray, List.set_cons_zero, List.set_cons_succ]
      refine held_take (i := 28) (d := 76) (v := ?_) rfl rfl (by kernel_rfl) (by kernel_rfl) (by kernel_rfl) (fun _ _ _ h => h) (by rfl) ?_ hHeld ?_
      rotate_left
      · intro w hSw; (try dsimp only at hSw); go_simp; with_reducible rfl
      try simp only [Act.put, List.setIfInBounds_toArray, List.set_cons_zero, List.set_cons_succ]
      refine held_take (i := 30) (d := 78) (v := ?_) rfl rfl (by kernel_rfl) (by kernel_rfl) (by kernel_rfl) (fun _ _ _ h => h) (by rfl) ?_ hHeld ?_
      rotate_left
      · intro w hSw; (try dsimp only at hSw); go_simp; with_reducible rfl
      try simp only [Act.put, List.setIfInBounds_toArray, List.set_cons_zero, List.set_cons_succ]
      refine wpAnyH_ready (rs := [29]) (by kernel_rfl) (by simp) (AllReadyH.cons rfl (fun K hK => ?_) AllReadyH.nil)
      go_simp
      go_at_call 37
      refine (Sign_any x _ _ VX).mono ?_; rw [HS.out]; rintro e wx7 ⟨rfl, hb7⟩
      replace VX := VX.next hb7
      replace VY := VY.next hb7
      replace SN := SN.next hb7
      replace SD := SD.next hb7
      replace HP := HP.next hb7
      replace CA := CA.next hb7
      replace CB := CB.next hb7
      replace HB := below_chain HB hb7
      go_wp2_with fail
      refine hK.out _ _ (hKp _ _ hHeld hb7) (fun hHeld => ?_)
      clear hK K hb7
      try simp only [Act.put, List.setIfInBounds_toArray, List.set_cons_zero, List.set_cons_succ]
      refine wpAnyH_ready (rs := [31]) (by kernel_rfl) (by simp) (AllReadyH.cons rfl (fun K hK => ?_) AllReadyH.nil)
      go_simp
      go_at_call 39
      refine (rSign_any x _ _ VX).mono ?_; rw [HS.out]; rintro e wx8 ⟨rfl, hb8⟩
      replace VX := VX.next hb8
      replace VY := VY.next hb8
      replace SN := SN.next hb8
      replace SD := SD.next hb8
      replace HP := HP.next hb8
      replace CA := CA.next hb8
      replace CB := CB.next hb8
      replace HB := below_chain HB hb8
      go_wp2_with fail
      refine hK.out _ _ (hKp _ _ hHeld hb8) (fun hHeld => ?_)
      clear hK K hb8
      try simp only [Act.put, List.setIfInBounds_toArray, List.set_cons_zero, List.set_cons_succ]
      refine held_take (i := 32) (d := 80) (v := ?_) rfl rfl (by kernel_rfl) (by kernel_rfl) (by kernel_rfl) (fun _ _ _ h => h) (by rfl) ?_ hHeld ?_
      rotate_left
      · intro w hSw; (try dsimp only at hSw); go_simp; with_reducible rfl
      try simp only [Act.put, List.setIfInBounds_toArray, List.set_cons_zero, List.set_cons_succ]
      refine held_take (i := 33) (d := 81) (v := ?_) rfl rfl (by kernel_rfl) (by kernel_rfl) (by kernel_rfl) (fun _ _ _ h => h) (by rfl) ?_ hHeld ?_
      rotate_left
      · intro w hSw; (try dsimp only at hSw); go_simp; with_reducible rfl
      try simp only [Act.put, List.setIfInBounds_toArray, List.set_cons_zero, List.set_cons_succ]
      refine held_take (i := 34) (d := 82) (v := ?_) rfl rfl (by kernel_rfl) (by kernel_rfl) (by kernel_rfl) (fun _ _ _ h => h) (by rfl) ?_ hHeld ?_
      rotate_left
      · intro w hSw; (try dsimp only at hSw); go_simp; with_reducible rfl
      try simp only [Act.put, List.setIfInBounds_toArray, List.set_cons_zero, List.set_cons_succ]
      refine held_take (i := 35) (d := 83) (v := ?_) rfl rfl (by kernel_rfl) (by kernel_rfl) (by kernel_rfl) (fun _ _ _ h => h) (by rfl) ?_ hHeld ?_
      rotate_left
      · intro w hSw; (try dsimp only at hSw); go_simp; with_reducible rfl
      try simp only [Act.put, List.setIfInBounds_toArray, List.set_cons_zero, List.set_cons_succ]
      refine held_take (i := 37) (d := 85) (v := ?_) rfl rfl (by kernel_rfl) (by kernel_rfl) (by kernel_rfl) (fun _ _ _ h => h) (by rfl) ?_ hHeld ?_
      rotate_left
      · intro w hSw; (try dsimp only at hSw); go_simp; with_reducible rfl
      try simp only [Act.put, List.setIfInBounds_toArray, List.set_cons_zero, List.set_cons_succ]
      refine wpAnyH_ready (rs := [36]) (by kernel_rfl) (by simp) (AllReadyH.cons rfl (fun K hK => ?_) AllReadyH.nil)
      go_simp
      go_at_call 43
      refine (Neg_any x _ _ VX 6 fx (by decide)).mono ?_; rintro e wx9 ⟨v9, rfl, C9, hb9⟩
      have f9 : Fit 6 (-x) := fit_neg fx
      replace VX := VX.next hb9
      replace VY := VY.next hb9
      replace SN := SN.next hb9
      replace SD := SD.next hb9
      replace HP := HP.next hb9
      replace CA := CA.next hb9
      replace CB := CB.next hb9
      replace HB := below_chain HB hb9
      go_wp2_with fail
      refine hK.out _ _ (hKp _ _ hHeld hb9) (fun hHeld => ?_)
      clear hK K hb9
      try simp only [Act.put, List.setIfInBounds_toArray, List.set_cons_zero, List.set_cons_succ]
      refine wpAnyH_ready (rs := [38]) (by kernel_rfl) (by simp) (AllReadyH.cons rfl (fun K hK => ?_) AllReadyH.nil)
      go_simp
      go_at_call 44
      refine (rNeg_any x _ _ VX).mono ?_; rintro e wx10 ⟨v10, rfl, C10, hb10⟩
      have f10 : Fit 6 (-x) := fit_neg fx
      replace VX := VX.next hb10
      replace VY := VY.next hb10
      replace SN := SN.next hb10
      replace SD := SD.next hb10
      replace HP := HP.next hb10
      replace CA := CA.next hb10
      replace CB := CB.next hb10
      replace C9 := C9.next hb10
      replace HB := below_chain HB hb10
      go_wp2_with fail
      refine hK.out _ _ (hKp _ _ hHeld hb10) (fun hHeld => ?_)
      clear hK K hb10
      try simp only [Act.put, List.setIfInBounds_toArray, List.set_cons_zero, List.set_cons_succ]
      refine wpAnyH_ready (rs := [39]) (by kernel_rfl) (by simp) (AllReadyH.cons rfl (fun K hK => ?_) AllReadyH.nil)
      go_simp
      go_at_call 13
      refine (rSameE (-x) (-x) rfl _ _ _ C9 C10).mono ?_; rintro e wx11 ⟨rfl, hb11⟩
      replace VX := VX.next hb11
      replace VY := VY.next hb11
      replace SN := SN.next hb11
      replace SD := SD.next hb11
      replace HP := HP.next hb11
      replace CA := CA.next hb11
      replace CB := CB.next hb11
      replace C9 := C9.next hb11
      replace C10 := C10.next hb11
      replace HB := below_chain HB hb11
      go_wp2_with fail
      refine hK.out _ _ (hKp _ _ hHeld hb11) (fun hHeld => ?_)
      clear hK K hb11
      try simp only [Act.put, List.setIfInBounds_toArray, List.set_cons_zero, List.set_cons_succ]
      refine held_take (i := 40) (d := 88) (v := ?_) rfl rfl (by kernel_rfl) (by kernel_rfl) (by kernel_rfl) (fun _ _ _ h => h) (by rfl) ?_ hHeld ?_
      rotate_left
      · intro w hSw; (try dsimp only at hSw); go_simp; with_reducible rfl
      try simp only [Act.put, List.setIfInBounds_toArray, List.set_cons_zero, List.set_cons_succ]
      refine held_take (i := 41) (d := 89) (v := ?_) rfl rfl (by kernel_rfl) (by kernel_rfl) (by kernel_rfl) (fun _ _ _ h => h) (by rfl) ?_ hHeld ?_
      rotate_left
      · intro w hSw; (try dsimp only at hSw); go_simp; with_reducible rfl
      try simp only [Act.put, List.setIfInBounds_toArray, List.set_cons_zero, List.set_cons_succ]
      refine held_take (i := 42) (d := 90) (v := ?_) rfl rfl (by kernel_rfl) (by kernel_rfl) (by kernel_rfl) (fun _ _ _ h => h) (by rfl) ?_ hHeld ?_
      rotate_left
      · intro w hSw; (try dsimp only at hSw); go_simp; with_reducible rfl
      try simp only [Act.put, List.setIfInBounds_toArray, List.set_cons_zero, List.set_cons_succ]
      refine held_take (i := 44) (d := 92) (v := ?_) rfl rfl (by kernel_rfl) (by kernel_rfl) (by kernel_rfl) (fun _ _ _ h => h) (by rfl) ?_ hHeld ?_
      rotate_left
      · intro w hSw; (try dsimp only at hSw); go_simp; with_reducible rfl
      try simp only [Act.put, List.setIfInBounds_toArray, List.set_cons_zero, List.set_cons_succ]
      refine wpAnyH_ready (rs := [43]) (by kernel_rfl) (by simp) (AllReadyH.cons rfl (fun K hK => ?_) AllReadyH.nil)
      go_simp
      go_at_call 45
      refine (Abs_any x _ _ VX 6 fx (by decide)).mono ?_; rintro e wx12 ⟨v12, rfl, C12, hb12⟩
      have f12 : Fit 6 (absQ x) := fit_abs fx
      replace VX := VX.next hb12
      replace VY := VY.next hb12
      replace SN := SN.next hb12
      replace SD := SD.next hb12
      replace HP := HP.next hb12
      replace CA := CA.next hb12
      replace CB := CB.next hb12
      replace C9 := C9.next hb12
      replace C10 := C10.next hb12
      replace HB := below_chain HB hb12
      go_wp2_with fail
      refine hK.out _ _ (hKp _ _ hHeld hb12) (fun hHeld => ?_)
      clear hK K hb12
      try simp only [Act.put, List.setIfInBounds_toArray, List.set_cons_zero, List.set_cons_succ]
      refine wpAnyH_ready (rs := [45]) (by kernel_rfl) (by simp) (AllReadyH.cons rfl (fun K hK => ?_) AllReadyH.nil)
      go_simp
      go_at_call 46
      refine (rAbs_any x _ _ VX).mono ?_; rintro e wx13 ⟨v13, rfl, C13, hb13⟩
      have f13 : Fit 6 (absQ x) := fit_abs fx
      replace VX := VX.next hb13
      replace VY := VY.next hb13
      replace SN := SN.next hb13
      replace SD := SD.next hb13
      replace HP := HP.next hb13
      replace CA := CA.next hb13
      replace CB := CB.next hb13
      replace C9 := C9.next hb13
      replace C10 := C10.next hb13
      replace C12 := C12.next hb13
      replace HB := below_chain HB hb13
      go_wp2_with fail
      refine hK.out _ _ (hKp _ _ hHeld hb13) (fun hHeld => ?_)
      clear hK K hb13
      try simp only [Act.put, List.setIfInBounds_toArray, List.set_cons_zero, List.set_cons_succ]
      refine wpAnyH_ready (rs := [46]) (by kernel_rfl) (by simp) (AllReadyH.cons rfl (fun K hK => ?_) AllReadyH.nil)
      go_simp
      go_at_call 13
      refine (rSameE (absQ x) (absQ x) rfl _ _ _ C12 C13).mono ?_; rintro e wx14 ⟨rfl, hb14⟩
      replace VX := VX.next hb14
      replace VY := VY.next hb14
      replace SN := SN.next hb14
      replace SD := SD.next hb14
      replace HP := HP.next hb14
      replace CA := CA.next hb14
      replace CB := CB.next hb14
      replace C9 := C9.next hb14
      replace C10 := C10.next hb14
      replace C12 := C12.next hb14
      replace C13 := C13.next hb14
      replace HB := below_chain HB hb14
      go_wp2_with fail
      refine hK.out _ _ (hKp _ _ hHeld hb14) (fun hHeld => ?_)
      clear hK K hb14
      try simp only [Act.put, List.setIfInBounds_toArray, List.set_cons_zero, List.set_cons_succ]
      refine held_take (i := 47) (d := 95) (v := ?_) rfl rfl (by kernel_rfl) (by kernel_rfl) (by kernel_rfl) (fun _ _ _ h => h) (by rfl) ?_ hHeld ?_
      rotate_left
      · intro w hSw; (try dsimp only at hSw); go_simp; with_reducible rfl
      try simp only [Act.put, List.setIfInBounds_toArray, List.set_cons_zero, List.set_cons_succ]
      refine held_take (i := 48) (d := 96) (v := ?_) rfl rfl (by kernel_rfl) (by kernel_rfl) (by kernel_rfl) (fun _ _ _ h => h) (by rfl) ?_ hHeld ?_
      rotate_left
      · intro w hSw; (try dsimp only at hSw); go_simp; with_reducible rfl
      try simp only [Act.put, List.setIfInBounds_toArray, List.set_cons_zero, List.set_cons_succ]
      refine held_take (i := 49) (d := 97) (v := ?_) rfl rfl (by kernel_rfl) (by kernel_rfl) (by kernel_rfl) (fun _ _ _ h => h) (by rfl) ?_ hHeld ?_
      rotate_left
      · intro w hSw; (try dsimp only at hSw); go_simp; with_reducible rfl
      try simp only [Act.put, List.setIfInBounds_toArray, List.set_cons_zero, List.set_cons_succ]
      refine held_take (i := 50) (d := 98) (v := ?_) rfl rfl (by kernel_rfl) (by kernel_rfl) (by kernel_rfl) (fun _ _ _ h => h) (by rfl) ?_ hHeld ?_
      rotate_left
      · intro w hSw; (try dsimp only at hSw); go_simp; with_reducible rfl
      try simp only [Act.put, List.setIfInBounds_toArray, List.set_cons_zero, List.set_cons_succ]
      refine held_take (i := 51) (d := 99) (v := ?_) rfl rfl (by kernel_rfl) (by kernel_rfl) (by kernel_rfl) (fun _ _ _ h => h) (by rfl) ?_ hHeld ?_
      rotate_left
      · intro w hSw; (try dsimp only at hSw); go_simp; with_reducible rfl
      try simp only [Act.put, List.setIfInBounds_toArray, List.set_cons_zero, List.set_cons_succ]
      refine held_take (i := 52) (d := 100) (v := ?_) rfl rfl (by kernel_rfl) (by kernel_rfl) (by kernel_rfl) (fun _ _ _ h => h) (by rfl) ?_ hHeld ?_
      rotate_left
      · intro w hSw; (try dsimp only at hSw); go_simp; with_reducible rfl
      try simp only [Act.put, List.setIfInBounds_toArray, List.set_cons_zero, List.set_cons_succ]
      refine held_take (i := 53) (d := 101) (v := ?_) rfl rfl (by kernel_rfl) (by kernel_rfl) (by kernel_rfl) (fun _ _ _ h => h) (by rfl) ?_ hHeld ?_
      rotate_left
      · intro w hSw; (try dsimp only at hSw); go_simp; with_reducible rfl
      try simp only [Act.put, List.setIfInBounds_toArray, List.set_cons_zero, List.set_cons_succ]
      refine held_take (i := 54) (d := 102) (v := ?_) rfl rfl (by kernel_rfl) (by kernel_rfl) (by kernel_rfl) (fun _ _ _ h => h) (by rfl) ?_ hHeld ?_
      rotate_left
      · intro w hSw; (try dsimp only at hSw); go_simp; with_reducible rfl
      try simp only [Act.put, List.setIfInBounds_toArray, List.set_cons_zero, List.set_cons_succ]
      refine held_take (i := 55) (d := 103) (v := ?_) rfl rfl (by kernel_rfl) (by kernel_rfl) (by kernel_rfl) (fun _ _ _ h => h) (by rfl) ?_ hHeld ?_
      rotate_left
      · intro w hSw; (try dsimp only at hSw); go_simp; with_reducible rfl
      try simp only [Act.put, List.setIfInBounds_toArray, List.set_cons_zero, List.set_cons_succ]
      refine held_take (i := 56) (d := 104) (v := ?_) rfl rfl (by kernel_rfl) (by kernel_rfl) (by kernel_rfl) (fun _ _ _ h => h) (by rfl) ?_ hHeld ?_
      rotate_left
      · intro w hSw; (try dsimp only at hSw); go_simp; with_reducible rfl
      try simp only [Act.put, List.setIfInBounds_toArray, List.set_cons_zero, List.set_cons_succ]
      refine held_take (i := 57) (d := 105) (v := ?_) rfl rfl (by kernel_rfl) (by kernel_rfl) (by kernel_rfl) (fun _ _ _ h => h) (by rfl) ?_ hHeld ?_
      rotate_left
      · intro w hSw; (try dsimp only at hSw); go_simp; with_reducible rfl
      try simp only [Act.put, List.setIfInBounds_toArray, List.set_cons_zero, List.set_cons_succ]
      refine held_take (i := 58) (d := 8) (v := ?_) rfl rfl (by kernel_rfl) (by kernel_rfl) (by kernel_rfl) (fun _ _ _ h => h) (by rfl) ?_ hHeld ?_
      rotate_left
      · intro w hSw; (try dsimp only at hSw); go_simp; with_reducible rfl
      try simp only [Act.put, List.setIfInBounds_toArray, List.set_cons_zero, List.set_cons_succ]
      refine wpAnyH_done (by kernel_rfl) ?_ _
      go_wp2_with fail
      go_ret
      exact ⟨rfl, HB⟩

end Go.Proofs.YtjppjhjfogjhaaaGreatDoor
