/-
  The walk of RationalCalculates. No condition but the table of powers of ten.
-/
import Derived.Test.YtjppjhjfogjhaaaGreatDoorLawA
namespace Go.Proofs.YtjppjhjfogjhaaaGreatDoor
open Go.RowKit Go.Lib
set_option linter.unusedSimpArgs false
set_option linter.unusedVariables false

set_option maxHeartbeats 8000000 in
set_option maxRecDepth 100000 in
theorem walkCalc (w : World) (hp : Pow w) (s : Bool) (N D : List Nat) (bo : Option Addr) (m ca : Nat) (co : Option Addr) (l cb : Nat) (hN1 : Sl w bo m ca (u32s N)) (hD1 : Sl w co l cb (u32s D)) (LN1 : Lim N) (LD1 : Lim D) (zb1 : bo = none → ca = 0) (zc1 : co = none → cb = 0) (t : Bool) (N2 D2 : List Nat) (bo2 : Option Addr) (m2 ca2 : Nat) (co2 : Option Addr) (l2 cb2 : Nat) (hN2 : Sl w bo2 m2 ca2 (u32s N2)) (hD2 : Sl w co2 l2 cb2 (u32s D2)) (LN2 : Lim N2) (LD2 : Lim D2) (zb2 : bo2 = none → ca2 = 0) (zc2 : co2 = none → cb2 = 0) :
    Calls Tryz.prog 6 #[.agg #[.bool s, .slice bo m ca, .slice co l cb], .agg #[.bool t, .slice bo2 m2 ca2, .slice co2 l2 cb2]] w fun e w' => e = .returned (.bool true) ∧ Below w.heap.size w w' := by
  have bn1 := hN1.bound
  have bd1 := hD1.bound
  have bn2 := hN2.bound
  have bd2 := hD2.bound
  have X : Bk w w.heap.size (.bool s) (.slice bo m ca) (.slice co l cb) ((w.alloc (.cells #[.bool s, .slice bo m ca, .slice co l cb] 24)).alloc (.cells #[.bool t, .slice bo2 m2 ca2, .slice co2 l2 cb2] 24)) := (Bk.start (Below.refl w.heap.size w) rfl (.bool s) (.slice bo m ca) (.slice co l cb) 24).new _
  have Y : Bk w (w.heap.size + 1) (.bool t) (.slice bo2 m2 ca2) (.slice co2 l2 cb2) ((w.alloc (.cells #[.bool s, .slice bo m ca, .slice co l cb] 24)).alloc (.cells #[.bool t, .slice bo2 m2 ca2, .slice co2 l2 cb2] 24)) := Bk.start (below_alloc _) (by simp) _ _ _ 24
  have HB := X.bel
  cases hL1 : lightB m l with
  | false =>
    have HL1 := hid hL1
    clear hL1
    go_enter Tryz.func6, Tryz.ntmps6
    go_wp2_with fail
    refine (llight_any s bo co m ca l cb bn1 bd1 _).mono ?_; rintro e w1 ⟨rfl, hb1⟩
    rw [HL1.out]
    replace X := X.next hb1
    replace Y := Y.next hb1
    replace HB := below_chain HB hb1
    clear hb1
    go_wp2_with fail
    refine (lawake_any _ (hp.next HB)).mono ?_; rintro e wq ⟨rfl, hbq⟩
    go_wp2_with fail
    go_ret
    exact ⟨rfl, below_chain HB hbq⟩
  | true =>
    cases hL2 : lightB m2 l2 with
    | false =>
      have HL1 := hid hL1
      have HL2 := hid hL2
      clear hL1 hL2
      go_enter Tryz.func6, Tryz.ntmps6
      go_wp2_with fail
      refine (llight_any s bo co m ca l cb bn1 bd1 _).mono ?_; rintro e w1 ⟨rfl, hb1⟩
      rw [HL1.out]
      replace X := X.next hb1
      replace Y := Y.next hb1
      replace HB := below_chain HB hb1
      clear hb1
      obtain ⟨y0, y1, y2⟩ := Y.c3
      go_wp2_with fail
      refine (llight_any t bo2 co2 m2 ca2 l2 cb2 bn2 bd2 _).mono ?_; rintro e w2 ⟨rfl, hb2⟩
      rw [HL2.out]
      clear y0 y1 y2
      replace X := X.next hb2
      replace Y := Y.next hb2
      replace HB := below_chain HB hb2
      clear hb2
      go_wp2_with fail
      refine (lawake_any _ (hp.next HB)).mono ?_; rintro e wq ⟨rfl, hbq⟩
      go_wp2_with fail
      go_ret
      exact ⟨rfl, below_chain HB hbq⟩
    | true =>
      obtain ⟨VX, fx⟩ := arg_V (s := s) hN1 hD1 LN1 LD1 zb1 zc1 hL1
      obtain ⟨VY, fy⟩ := arg_V (s := t) hN2 hD2 LN2 LD2 zb2 zc2 hL2
      have HL1 := hid hL1
      have HL2 := hid hL2
      generalize ratOf s N D = x at *
      generalize ratOf t N2 D2 = y at *
      clear hL1 hL2 hN1 hD1 LN1 LD1 hN2 hD2 LN2 LD2
      replace VX := VX.next HB
      replace VY := VY.next HB
      go_enter Tryz.func6, Tryz.ntmps6
      go_wp2_with fail
      refine (llight_any s bo co m ca l cb bn1 bd1 _).mono ?_; rintro e w1 ⟨rfl, hb1⟩
      rw [HL1.out]
      replace X := X.next hb1
      replace Y := Y.next hb1
      replace VX := VX.next hb1
      replace VY := VY.next hb1
      replace HB := below_chain HB hb1
      clear hb1
      obtain ⟨y0, y1, y2⟩ := Y.c3
      go_wp2_with fail
      refine (llight_any t bo2 co2 m2 ca2 l2 cb2 bn2 bd2 _).mono ?_; rintro e w2 ⟨rfl, hb2⟩
      rw [HL2.out]
      clear y0 y1 y2
      replace X := X.next hb2
      replace Y := Y.next hb2
      replace VX := VX.next hb2
      replace VY := VY.next hb2
      replace HB := below_chain HB hb2
      clear hb2
      have HP := hp.next HB
      clear hp bn1 bd1 bn2 bd2 HL1 HL2 zb1 zc1 zb2 zc2
      obtain ⟨c, hc⟩ : ∃ c, divErr y = c := ⟨_, rfl⟩
      have HC := hid hc
      clear hc
      have hcc : (c == c) = true := by simp
      obtain ⟨x0, x1, x2⟩ := X.c3
      obtain ⟨y0, y1, y2⟩ := Y.c3
      go_wp2_with fail
      refine (Div_any x y _ _ _ VX VY 6 fx fy (by decide)).mono ?_
      rw [HC.out]
      rintro e w3 ⟨v3, rfl, CA, hb3⟩
      obtain ⟨rb, ro, rn, rc, so, sn, sc, rfl⟩ := CA.shape
      clear x0 x1 x2 y0 y1 y2
      replace X := X.next hb3
      replace Y := Y.next hb3
      replace VX := VX.next hb3
      replace VY := VY.next hb3
      replace HP := HP.next hb3
      replace HB := below_chain HB hb3
      clear hb3
      have hb4 : Below w3.heap.size w3 (w3.alloc (.cells #[.bool rb, .slice ro rn rc, .slice so sn sc] 24)) := below_alloc _
      have A := Bk.start HB rfl (.bool rb) (.slice ro rn rc) (.slice so sn sc) 24
      replace X := X.next hb4
      replace Y := Y.next hb4
      replace VX := VX.next hb4
      replace VY := VY.next hb4
      replace HP := HP.next hb4
      replace CA := CA.next hb4
      replace HB := below_chain HB hb4
      clear hb4
      obtain ⟨x0, x1, x2⟩ := X.c3
      obtain ⟨y0, y1, y2⟩ := Y.c3
      go_wp2_with fail
      refine (rDiv_any x y _ _ _ VX VY 6 fx fy (by decide)).mono ?_
      rw [HC.out]
      rintro e w5 ⟨v5, rfl, CB, hb5⟩
      obtain ⟨tb, to', tn, tc, uo, un, uc, rfl⟩ := CB.shape
      clear x0 x1 x2 y0 y1 y2
      replace X := X.next hb5
      replace Y := Y.next hb5
      replace A := A.next hb5
      replace VX := VX.next hb5
      replace VY := VY.next hb5
      replace HP := HP.next hb5
      replace CA := CA.next hb5
      replace HB := below_chain HB hb5
      clear hb5
      have hb6 : Below w5.heap.size w5 (w5.alloc (.cells #[.bool tb, .slice to' tn tc, .slice uo un uc] 24)) := below_alloc _
      have B := Bk.start HB rfl (.bool tb) (.slice to' tn tc) (.slice uo un uc) 24
      replace X := X.next hb6
      replace Y := Y.next hb6
      replace A := A.next hb6
      replace VX := VX.next hb6
      replace VY := VY.next hb6
      replace HP := HP.next hb6
      replace CA := CA.next hb6
      replace CB := CB.next hb6
      replace HB := below_chain HB hb6
      clear hb6
      go_upto_region 5 with fail
      generalize w5.alloc (.cells #[.bool tb, .slice to' tn tc, .slice uo un uc] 24) = W at *
      have hd := (Below.refl W.heap.size W).drew
      have hS0 : C3 w.heap.size (.bool s) (.slice bo m ca) (.slice co l cb) W.drew ∧ C3 (w.heap.size + 1) (.bool t) (.slice bo2 m2 ca2) (.slice co2 l2 cb2) W.drew ∧ C3 w3.heap.size (.bool rb) (.slice ro rn rc) (.slice so sn sc) W.drew ∧ C3 w5.heap.size (.bool tb) (.slice to' tn tc) (.slice uo un uc) W.drew := ⟨X.drew.c3, Y.drew.c3, A.drew.c3, B.drew.c3⟩
      have hKp : ∀ w' w'', (C3 w.heap.size (.bool s) (.slice bo m ca) (.slice co l cb) w' ∧ C3 (w.heap.size + 1) (.bool t) (.slice bo2 m2 ca2) (.slice co2 l2 cb2) w' ∧ C3 w3.heap.size (.bool rb) (.slice ro rn rc) (.slice so sn sc) w' ∧ C3 w5.heap.size (.bool tb) (.slice to' tn tc) (.slice uo un uc) w') → Below w'.heap.size w' w'' → (C3 w.heap.size (.bool s) (.slice bo m ca) (.slice co l cb) w'' ∧ C3 (w.heap.size + 1) (.bool t) (.slice bo2 m2 ca2) (.slice co2 l2 cb2) w'' ∧ C3 w3.heap.size (.bool rb) (.slice ro rn rc) (.slice so sn sc) w'' ∧ C3 w5.heap.size (.bool tb) (.slice to' tn tc) (.slice uo un uc) w'') := fun w' w'' h hb => ⟨h.1.next hb, h.2.1.next hb, h.2.2.1.next hb, h.2.2.2.next hb⟩
      clear X Y A B
      replace VX := VX.next hd
      replace VY := VY.next hd
      replace HP := HP.next hd
      replace CA := CA.next hd
      replace CB := CB.next hd
      replace HB := HB.trans (hd.mono HB.size)
      refine wp_region_held_drew (S := (fun w' => C3 w.heap.size (.bool s) (.slice bo m ca) (.slice co l cb) w' ∧ C3 (w.heap.size + 1) (.bool t) (.slice bo2 m2 ca2) (.slice co2 l2 cb2) w' ∧ C3 w3.heap.size (.bool rb) (.slice ro rn rc) (.slice so sn sc) w' ∧ C3 w5.heap.size (.bool tb) (.slice to' tn tc) (.slice uo un uc) w')) (by kernel_rfl) (hS0) (fun hHeld => ?_)
      refine wpAnyH_ready (rs := [0]) (by kernel_rfl) (by simp) (AllReadyH.cons rfl (fun K hK => ?_) AllReadyH.nil)
      go_simp
      go_at_call 12
      refine (lawake_any _ HP).mono ?_; rintro e wx1 ⟨rfl, hb1⟩
      replace VX := VX.next hb1
      replace VY := VY.next hb1
      replace HP := HP.next hb1
      replace CA := CA.next hb1
      replace CB := CB.next hb1
      replace HB := below_chain HB hb1
      go_wp2_with fail
      refine hK.out _ _ (hKp _ _ hHeld hb1) (fun hHeld => ?_)
      clear hK K hb1
      try simp only [Act.put, List.setIfInBounds_toArray, List.set_cons_zero, List.set_cons_succ]
      refine held_take (i := 1) (d := 31) (v := ?_) rfl rfl (by kernel_rfl) (by kernel_rfl) (by kernel_rfl) (fun _ _ _ h => h) (by rfl) ?_ hHeld ?_
      rotate_left
      · intro w hSw; (try dsimp only at hSw); go_simp; with_reducible rfl
      try simp only [Act.put, List.setIfInBounds_toArray, List.set_cons_zero, List.set_cons_succ]
      refine held_take (i := 2) (d := 32) (v := ?_) rfl rfl (by kernel_rfl) (by kernel_rfl) (by kernel_rfl) (fun _ _ _ h => h) (by rfl) ?_ hHeld ?_
      rotate_left
      · intro w hSw; (try dsimp only at hSw); go_simp; with_reducible rfl
      try simp only [Act.put, List.setIfInBounds_toArray, List.set_cons_zero, List.set_cons_succ]
      refine held_take (i := 3) (d := 33) (v := ?_) rfl rfl (by kernel_rfl) (by kernel_rfl) (by kernel_rfl) (fun _ _ _ h => h) (by rfl) ?_ hHeld ?_
      rotate_left
      · intro w hSw; (try dsimp only at hSw); go_simp; with_reducible rfl
      try simp only [Act.put, List.setIfInBounds_toArray, List.set_cons_zero, List.set_cons_succ]
      refine held_take (i := 5) (d := 35) (v := ?_) rfl rfl (by kernel_rfl) (by kernel_rfl) (by kernel_rfl) (fun _ _ _ h => h) (by rfl) ?_ hHeld ?_
      rotate_left
      · intro w hSw; (try dsimp only at hSw); go_simp; with_reducible rfl
      try simp only [Act.put, List.setIfInBounds_toArray, List.set_cons_zero, List.set_cons_succ]
      refine held_take (i := 6) (d := 36) (v := ?_) rfl rfl (by kernel_rfl) (by kernel_rfl) (by kernel_rfl) (fun _ _ _ h => h) (by rfl) ?_ hHeld ?_
      rotate_left
      · intro w hSw; (try dsimp only at hSw); go_simp; with_reducible rfl
      try simp only [Act.put, List.setIfInBounds_toArray, List.set_cons_zero, List.set_cons_succ]
      refine wpAnyH_ready (rs := [4]) (by kernel_rfl) (by simp) (AllReadyH.cons rfl (fun K hK => ?_) AllReadyH.nil)
      go_simp
      go_at_call 27
      refine (Add_any x y _ _ _ VX VY 6 fx fy (by decide)).mono ?_; rintro e wx2 ⟨v2, rfl, C2, hb2⟩
      have f2 : Fit 13 (x + y) := fit_add fx fy
      replace VX := VX.next hb2
      replace VY := VY.next hb2
      replace HP := HP.next hb2
      replace CA := CA.next hb2
      replace CB := CB.next hb2
      replace HB := below_chain HB hb2
      go_wp2_with fail
      refine hK.out _ _ (hKp _ _ hHeld hb2) (fun hHeld => ?_)
      clear hK K hb2
      try simp only [Act.put, List.setIfInBounds_toArray, List.set_cons_zero, List.set_cons_succ]
      refine wpAnyH_ready (rs := [7]) (by kernel_rfl) (by simp) (AllReadyH.cons rfl (fun K hK => ?_) AllReadyH.nil)
      go_simp
      go_at_call 28
      refine (rAdd_any x y _ _ _ VX VY 6 fx fy (by decide)).mono ?_; rintro e wx3 ⟨v3, rfl, C3, hb3⟩
      have f3 : Fit 13 (x + y) := fit_add fx fy
      replace VX := VX.next hb3
      replace VY := VY.next hb3
      replace HP := HP.next hb3
      replace CA := CA.next hb3
      replace CB := CB.next hb3
      replace C2 := C2.next hb3
      replace HB := below_chain HB hb3
      go_wp2_with fail
      refine hK.out _ _ (hKp _ _ hHeld hb3) (fun hHeld => ?_)
      clear hK K hb3
      try simp only [Act.put, List.setIfInBounds_toArray, List.set_cons_zero, List.set_cons_succ]
      refine wpAnyH_ready (rs := [8]) (by kernel_rfl) (by simp) (AllReadyH.cons rfl (fun K hK => ?_) AllReadyH.nil)
      go_simp
      go_at_call 13
      refine (rSameE (x + y) (x + y) rfl _ _ _ C2 C3).mono ?_; rintro e wx4 ⟨rfl, hb4⟩
      replace VX := VX.next hb4
      replace VY := VY.next hb4
      replace HP := HP.next hb4
      replace CA := CA.next hb4
      replace CB := CB.next hb4
      replace C2 := C2.next hb4
      replace C3 := C3.next hb4
      replace HB := below_chain HB hb4
      go_wp2_with fail
      refine hK.out _ _ (hKp _ _ hHeld hb4) (fun hHeld => ?_)
      clear hK K hb4
      try simp only [Act.put, List.setIfInBounds_toArray, List.set_cons_zero, List.set_cons_succ]
      refine held_take (i := 9) (d := 39) (v := ?_) rfl rfl (by kernel_rfl) (by kernel_rfl) (by kernel_rfl) (fun _ _ _ h => h) (by rfl) ?_ hHeld ?_
      rotate_left
      · intro w hSw; (try dsimp only at hSw); go_simp; with_reducible rfl
      try simp only [Act.put, List.setIfInBounds_toArray, List.set_cons_zero, List.set_cons_succ]
      refine held_take (i := 10) (d := 40) (v := ?_) rfl rfl (by kernel_rfl) (by kernel_rfl) (by kernel_rfl) (fun _ _ _ h => h) (by rfl) ?_ hHeld ?_
      rotate_left
      · intro w hSw; (try dsimp only at hSw); go_simp; with_reducible rfl
      try simp only [Act.put, List.setIfInBounds_toArray, List.set_cons_zero, List.set_cons_succ]
      refine held_take (i := 11) (d := 41) (v := ?_) rfl rfl (by kernel_rfl) (by kernel_rfl) (by kernel_rfl) (fun _ _ _ h => h) (by rfl) ?_ hHeld ?_
      rotate_left
      · intro w hSw; (try dsimp only at hSw); go_simp; with_reducible rfl
      try simp only [Act.put, List.setIfInBounds_toArray, List.set_cons_zero, List.set_cons_succ]
      refine held_take (i := 12) (d := 42) (v := ?_) rfl rfl (by kernel_rfl) (by kernel_rfl) (by kernel_rfl) (fun _ _ _ h => h) (by rfl) ?_ hHeld ?_
      rotate_left
      · intro w hSw; (try dsimp only at hSw); go_simp; with_reducible rfl
      try simp only [Act.put, List.setIfInBounds_toArray, List.set_cons_zero, List.set_cons_succ]
      refine held_take (i := 14) (d := 44) (v := ?_) rfl rfl (by kernel_rfl) (by kernel_rfl) (by kernel_rfl) (fun _ _ _ h => h) (by rfl) ?_ hHeld ?_
      rotate_left
      · intro w hSw; (try dsimp only at hSw); go_simp; with_reducible rfl
      try simp only [Act.put, List.setIfInBounds_toArray, List.set_cons_zero, List.set_cons_succ]
      refine held_take (i := 15) (d := 45) (v := ?_) rfl rfl (by kernel_rfl) (by kernel_rfl) (by kernel_rfl) (fun _ _ _ h => h) (by rfl) ?_ hHeld ?_
      rotate_left
      · intro w hSw; (try dsimp only at hSw); go_simp; with_reducible rfl
      try simp only [Act.put, List.setIfInBounds_toArray, List.set_cons_zero, List.set_cons_succ]
      refine wpAnyH_ready (rs := [13]) (by kernel_rfl) (by simp) (AllReadyH.cons rfl (fun K hK => ?_) AllReadyH.nil)
      go_simp
      go_at_call 29
      refine (Sub_any x y _ _ _ VX VY 6 fx fy (by decide)).mono ?_; rintro e wx5 ⟨v5, rfl, C5, hb5⟩
      have f5 : Fit 13 (x - y) := fit_sub fx fy
      replace VX := VX.next hb5
      replace VY := VY.next hb5
      replace HP := HP.next hb5
      replace CA := CA.next hb5
      replace CB := CB.next hb5
      replace C2 := C2.next hb5
      replace C3 := C3.next hb5
      replace HB := below_chain HB hb5
      go_wp2_with fail
      refine hK.out _ _ (hKp _ _ hHeld hb5) (fun hHeld => ?_)
      clear hK K hb5
      try simp only [Act.put, List.setIfInBounds_toArray, List.set_cons_zero, List.set_cons_succ]
      refine wpAnyH_ready (rs := [16]) (by kernel_rfl) (by simp) (AllReadyH.cons rfl (fun K hK => ?_) AllReadyH.nil)
      go_simp
      go_at_call 30
      refine (rSub_any x y _ _ _ VX VY 6 fx fy (by decide)).mono ?_; rintro e wx6 ⟨v6, rfl, C6, hb6⟩
      have f6 : Fit 13 (x - y) := fit_sub fx fy
      replace VX := VX.next hb6
      replace VY := VY.next hb6
      replace HP := HP.next hb6
      replace CA := CA.next hb6
      replace CB := CB.next hb6
      replace C2 := C2.next hb6
      replace C3 := C3.next hb6
      replace C5 := C5.next hb6
      replace HB := below_chain HB hb6
      go_wp2_with fail
      refine hK.out _ _ (hKp _ _ hHeld hb6) (fun hHeld => ?_)
      clear hK K hb6
      try simp only [Act.put, List.setIfInBounds_toArray, List.set_cons_zero, List.set_cons_succ]
      refine wpAnyH_ready (rs := [17]) (by kernel_rfl) (by simp) (AllReadyH.cons rfl (fun K hK => ?_) AllReadyH.nil)
      go_simp
      go_at_call 13
      refine (rSameE (x - y) (x - y) rfl _ _ _ C5 C6).mono ?_; rintro e wx7 ⟨rfl, hb7⟩
      replace VX := VX.next hb7
      replace VY := VY.next hb7
      replace HP := HP.next hb7
      replace CA := CA.next hb7
      replace CB := CB.next hb7
      replace C2 := C2.next hb7
      replace C3 := C3.next hb7
      replace C5 := C5.next hb7
      replace C6 := C6.next hb7
      replace HB := below_chain HB hb7
      go_wp2_with fail
      refine hK.out _ _ (hKp _ _ hHeld hb7) (fun hHeld => ?_)
      clear hK K hb7
      try simp only [Act.put, List.setIfInBounds_toArray, List.set_cons_zero, List.set_cons_succ]
      refine held_take (i := 18) (d := 48) (v := ?_) rfl rfl (by kernel_rfl) (by kernel_rfl) (by kernel_rfl) (fun _ _ _ h => h) (by rfl) ?_ hHeld ?_
      rotate_left
      · intro w hSw; (try dsimp only at hSw); go_simp; with_reducible rfl
      try simp only [Act.put, List.setIfInBounds_toArray, List.set_cons_zero, List.set_cons_succ]
      refine held_take (i := 19) (d := 49) (v := ?_) rfl rfl (by kernel_rfl) (by kernel_rfl) (by kernel_rfl) (fun _ _ _ h => h) (by rfl) ?_ hHeld ?_
      rotate_left
      · intro w hSw; (try dsimp only at hSw); go_simp; with_reducible rfl
      try simp only [Act.put, List.setIfInBounds_toArray, List.set_cons_zero, List.set_cons_succ]
      refine held_take (i := 20) (d := 50) (v := ?_) rfl rfl (by kernel_rfl) (by kernel_rfl) (by kernel_rfl) (fun _ _ _ h => h) (by rfl) ?_ hHeld ?_
      rotate_left
      · intro w hSw; (try dsimp only at hSw); go_simp; with_reducible rfl
      try simp only [Act.put, List.setIfInBounds_toArray, List.set_cons_zero, List.set_cons_succ]
      refine held_take (i := 21) (d := 51) (v := ?_) rfl rfl (by kernel_rfl) (by kernel_rfl) (by kernel_rfl) (fun _ _ _ h => h) (by rfl) ?_ hHeld ?_
      rotate_left
      · intro w hSw; (try dsimp only at hSw); go_simp; with_reducible rfl
      try simp only [Act.put, List.setIfInBounds_toArray, List.set_cons_zero, List.set_cons_succ]
      refine held_take (i := 23) (d := 53) (v := ?_) rfl rfl (by kernel_rfl) (by kernel_rfl) (by kernel_rfl) (fun _ _ _ h => h) (by rfl) ?_ hHeld ?_
      rotate_left
      · intro w hSw; (try dsimp only at hSw); go_simp; with_reducible rfl
      try simp only [Act.put, List.setIfInBounds_toArray, List.set_cons_zero, List.set_cons_succ]
      refine held_take (i := 24) (d := 54) (v := ?_) rfl rfl (by kernel_rfl) (by kernel_rfl) (by kernel_rfl) (fun _ _ _ h => h) (by rfl) ?_ hHeld ?_
      rotate_left
      · intro w hSw; (try dsimp only at hSw); go_simp; with_reducible rfl
      try simp only [Act.put, List.setIfInBounds_toArray, List.set_cons_zero, List.set_cons_succ]
      refine wpAnyH_ready (rs := [22]) (by kernel_rfl) (by simp) (AllReadyH.cons rfl (fun K hK => ?_) AllReadyH.nil)
      go_simp
      go_at_call 31
      refine (Mul_any x y _ _ _ VX VY 6 fx fy (by decide)).mono ?_; rintro e wx8 ⟨v8, rfl, C8, hb8⟩
      have f8 : Fit 12 (x * y) := fit_mul fx fy
      replace VX := VX.next hb8
      replace VY := VY.next hb8
      replace HP := HP.next hb8
      replace CA := CA.next hb8
      replace CB := CB.next hb8
      replace C2 := C2.next hb8
      replace C3 := C3.next hb8
      replace C5 := C5.next hb8
      replace C6 := C6.next hb8
      replace HB := below_chain HB hb8
      go_wp2_with fail
      refine hK.out _ _ (hKp _ _ hHeld hb8) (fun hHeld => ?_)
      clear hK K hb8
      try simp only [Act.put, List.setIfInBounds_toArray, List.set_cons_zero, List.set_cons_succ]
      refine wpAnyH_ready (rs := [25]) (by kernel_rfl) (by simp) (AllReadyH.cons rfl (fun K hK => ?_) AllReadyH.nil)
      go_simp
      go_at_call 32
      refine (rMul_any x y _ _ _ VX VY 6 fx fy (by decide)).mono ?_; rintro e wx9 ⟨v9, rfl, C9, hb9⟩
      have f9 : Fit 12 (x * y) := fit_mul fx fy
      replace VX := VX.next hb9
      replace VY := VY.next hb9
      replace HP := HP.next hb9
      replace CA := CA.next hb9
      replace CB := CB.next hb9
      replace C2 := C2.next hb9
      replace C3 := C3.next hb9
      replace C5 := C5.next hb9
      replace C6 := C6.next hb9
      replace C8 := C8.next hb9
      replace HB := below_chain HB hb9
      go_wp2_with fail
      refine hK.out _ _ (hKp _ _ hHeld hb9) (fun hHeld => ?_)
      clear hK K hb9
      try simp only [Act.put, List.setIfInBounds_toArray, List.set_cons_zero, List.set_cons_succ]
      refine wpAnyH_ready (rs := [26]) (by kernel_rfl) (by simp) (AllReadyH.cons rfl (fun K hK => ?_) AllReadyH.nil)
      go_simp
      go_at_call 13
      refine (rSameE (x * y) (x * y) rfl _ _ _ C8 C9).mono ?_; rintro e wx10 ⟨rfl, hb10⟩
      replace VX := VX.next hb10
      replace VY := VY.next hb10
      replace HP := HP.next hb10
      replace CA := CA.next hb10
      replace CB := CB.next hb10
      replace C2 := C2.next hb10
      replace C3 := C3.next hb10
      replace C5 := C5.next hb10
      replace C6 := C6.next hb10
      replace C8 := C8.next hb10
      replace C9 := C9.next hb10
      replace HB := below_chain HB hb10
      go_wp2_with fail
      refine hK.out _ _ (hKp _ _ hHeld hb10) (fun hHeld => ?_)
      clear hK K hb10
      try simp only [Act.put, List.setIfInBounds_toArray, List.set_cons_zero, List.set_cons_succ]
      refine held_take (i := 27) (d := 57) (v := ?_) rfl rfl (by kernel_rfl) (by kernel_rfl) (by kernel_rfl) (fun _ _ _ h => h) (by rfl) ?_ hHeld ?_
      rotate_left
      · intro w hSw; (try dsimp only at hSw); go_simp; with_reducible rfl
      try simp only [Act.put, List.setIfInBounds_toArray, List.set_cons_zero, List.set_cons_succ]
      refine held_take (i := 28) (d := 58) (v := ?_) rfl rfl (by kernel_rfl) (by kernel_rfl) (by kernel_rfl) (fun _ _ _ h => h) (by rfl) ?_ hHeld ?_
      rotate_left
      · intro w hSw; (try dsimp only at hSw); go_simp; with_reducible rfl
      try simp only [Act.put, List.setIfInBounds_toArray, List.set_cons_zero, List.set_cons_succ]
      refine held_take (i := 29) (d := 59) (v := ?_) rfl rfl (by kernel_rfl) (by kernel_rfl) (by kernel_rfl) (fun _ _ _ h => h) (by rfl) ?_ hHeld ?_
      rotate_left
      · intro w hSw; (try dsimp only at hSw); go_simp; with_reducible rfl
      try simp only [Act.put, List.setIfInBounds_toArray, List.set_cons_zero, List.set_cons_succ]
      refine held_take (i := 30) (d := 60) (v := ?_) rfl rfl (by kernel_rfl) (by kernel_rfl) (by kernel_rfl) (fun _ _ _ h => h) (by rfl) ?_ hHeld ?_
      rotate_left
      · intro w hSw; (try dsimp only at hSw); go_simp; with_reducible rfl
      try simp only [Act.put, List.setIfInBounds_toArray, List.set_cons_zero, List.set_cons_succ]
      refine wpAnyH_ready (rs := [31]) (by kernel_rfl) (by simp) (AllReadyH.cons rfl (fun K hK => ?_) AllReadyH.nil)
      go_simp
      go_at_call 13
      refine (rSameE (x / y) (x / y) rfl _ _ _ CA CB).mono ?_; rintro e wx11 ⟨rfl, hb11⟩
      replace VX := VX.next hb11
      replace VY := VY.next hb11
      replace HP := HP.next hb11
      replace CA := CA.next hb11
      replace CB := CB.next hb11
      replace C2 := C2.next hb11
      replace C3 := C3.next hb11
      replace C5 := C5.next hb11
      replace C6 := C6.next hb11
      replace C8 := C8.next hb11
      replace C9 := C9.next hb11
      replace HB := below_chain HB hb11
      go_wp2_with fail
      refine hK.out _ _ (hKp _ _ hHeld hb11) (fun hHeld => ?_)
      clear hK K hb11
      try simp only [Act.put, List.setIfInBounds_toArray, List.set_cons_zero, List.set_cons_succ]
      refine held_take (i := 32) (d := 62) (v := ?_) rfl rfl (by kernel_rfl) (by kernel_rfl) (by kernel_rfl) (fun _ _ _ h => h) (by rfl) ?_ hHeld ?_
      rotate_left
      · intro w hSw; (try dsimp only at hSw); go_simp; with_reducible rfl
      try simp only [Act.put, List.setIfInBounds_toArray, List.set_cons_zero, List.set_cons_succ]
      refine held_take (i := 33) (d := 63) (v := ?_) rfl rfl (by kernel_rfl) (by kernel_rfl) (by kernel_rfl) (fun _ _ _ h => h) (by rfl) ?_ hHeld ?_
      rotate_left
      · intro w hSw; (try dsimp only at hSw); go_simp; with_reducible rfl
      try simp only [Act.put, List.setIfInBounds_toArray, List.set_cons_zero, List.set_cons_succ]
      refine held_take (i := 34) (d := 64) (v := ?_) rfl rfl (by kernel_rfl) (by kernel_rfl) (by kernel_rfl) (fun _ _ _ h => h) (by rfl) ?_ hHeld ?_
      rotate_left
      · intro w hSw; (try dsimp only at hSw); go_simp; with_reducible rfl
      try simp only [Act.put, List.setIfInBounds_toArray, List.set_cons_zero, List.set_cons_succ]
      refine held_take (i := 35) (d := 65) (v := ?_) rfl rfl (by kernel_rfl) (by kernel_rfl) (by kernel_rfl) (fun _ _ _ h => h) (by rfl) ?_ hHeld ?_
      rotate_left
      · intro w hSw; (try dsimp only at hSw); go_simp; with_reducible rfl
      try simp only [Act.put, List.setIfInBounds_toArray, List.set_cons_zero, List.set_cons_succ]
      refine held_take (i := 36) (d := 66) (v := ?_) rfl rfl (by kernel_rfl) (by kernel_rfl) (by kernel_rfl) (fun _ _ _ h => h) (by rfl) ?_ hHeld ?_
      rotate_left
      · intro w hSw; (try dsimp only at hSw); go_simp; with_reducible rfl
      try simp only [Act.put, List.setIfInBounds_toArray, List.set_cons_zero, List.set_cons_succ]
      refine held_take (i := 37) (d := 67) (v := ?_) rfl rfl (by kernel_rfl) (by kernel_rfl) (by kernel_rfl) (fun _ _ _ h => h) (by rfl) ?_ hHeld ?_
      rotate_left
      · intro w hSw; (try dsimp only at hSw); go_simp; with_reducible rfl
      try simp only [Act.put, List.setIfInBounds_toArray, List.set_cons_zero, List.set_cons_succ]
      refine held_take (i := 38) (d := 4) (v := ?_) rfl rfl (by kernel_rfl) (by kernel_rfl) (by kernel_rfl) (fun _ _ _ h => h) (by rfl) ?_ hHeld ?_
      rotate_left
      · intro w hSw; (try dsimp only at hSw); go_simp; with_reducible rfl
      try simp only [Act.put, List.setIfInBounds_toArray, List.set_cons_zero, List.set_cons_succ]
      refine wpAnyH_done (by kernel_rfl) ?_ _
      go_wp2_with fail
      go_ret
      exact ⟨rfl, HB⟩

end Go.Proofs.YtjppjhjfogjhaaaGreatDoor
