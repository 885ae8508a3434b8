/-
  The walk of PolynomialCalculates. No condition but the table of powers of ten.
-/
import Derived.Test.YtgohfieleckmgaaGreatDoorPlw
namespace Go.Proofs.YtgohfieleckmgaaGreatDoor
open Go.RowKit
set_option linter.unusedSimpArgs false
set_option linter.unusedVariables false

/-- A list of monomials as it reads. -/
def LV (w : World) (ao : Option Addr) (n cap : Nat) (l : List Mr) : Prop := Pol RatV w ao n cap l
theorem LV.next {w w' : World} {ao : Option Addr} {n cap : Nat} {l : List Mr} (h : LV w ao n cap l) (hb : Below w.heap.size w w') : LV w' ao n cap l := Pol.nextV h hb

set_option maxHeartbeats 8000000 in
set_option maxRecDepth 100000 in
theorem walkCalcP (w : World) (hp : Pow w) (a0 : Option Addr) (m0 k0 : Nat) (l0 : List Mr) (h0 : Pol RatW w a0 m0 k0 l0) (a1 : Option Addr) (m1 k1 : Nat) (l1 : List Mr) (h1 : Pol RatW w a1 m1 k1 l1) (s : Bool) (N D : List Nat) (bo : Option Addr) (m ca : Nat) (co : Option Addr) (l cb : Nat) (hN1 : Sl w bo m ca (u32s N)) (hD1 : Sl w co l cb (u32s D)) (LN1 : Lim N) (LD1 : Lim D) (zb1 : bo = none → ca = 0) (zc1 : co = none → cb = 0) :
    Calls Tryz.prog 3 #[.slice a0 m0 k0, .slice a1 m1 k1, .agg #[.bool s, .slice bo m ca, .slice co l cb]] w fun e w' => e = .returned (.bool true) ∧ Below w.heap.size w w' := by
  have bn1 := hN1.bound
  have bd1 := hD1.bound
  have hW : RatW w (Value.agg #[.bool s, .slice bo m ca, .slice co l cb]) (ratOf s N D) := ⟨s, N, D, bo, co, m, ca, l, cb, rfl, hN1, hD1, LN1, LD1, zb1, zc1, rfl⟩
  generalize ratOf s N D = cq at *
  clear hN1 hD1 LN1 LD1 zb1 zc1
  have X := Bk.start (Below.refl w.heap.size w) rfl (.bool s) (.slice bo m ca) (.slice co l cb) 25
  have HB := X.bel
  replace hW := hW.next HB
  replace h1 := h1.nextW HB
  have hbd0 := h0.bound
  have hbd1 := h1.bound
  go_enter Tryz.func3, Tryz.ntmps3
  go_wp2_with fail
  refine (plight_any _ _ _ _ _ (h0.nextW HB)).mono ?_; rintro e w1 ⟨⟨c, rfl, hc⟩, hb1⟩
  replace X := X.next hb1
  replace hW := hW.next hb1
  replace h1 := h1.nextW hb1
  replace HB := below_chain HB hb1
  cases c with
  | false =>
    clear hc
    go_wp2_with fail
    refine (lpawake_any _ (hp.next HB)).mono ?_; rintro e wq ⟨rfl, hbq⟩
    go_wp2_with fail
    go_ret
    exact ⟨rfl, below_chain HB hbq⟩
  | true =>
    obtain ⟨h8, hV0, hF0⟩ := hc rfl
    replace hV0 := hV0.nextV hb1
    clear hc hb1
    go_wp2_with fail
    refine (plight_any _ _ _ _ _ h1).mono ?_; rintro e w2 ⟨⟨c, rfl, hc⟩, hb2⟩
    replace X := X.next hb2
    replace hW := hW.next hb2
    replace hV0 := hV0.nextV hb2
    replace HB := below_chain HB hb2
    cases c with
    | false =>
      clear hc
      go_wp2_with fail
      refine (lpawake_any _ (hp.next HB)).mono ?_; rintro e wq ⟨rfl, hbq⟩
      go_wp2_with fail
      go_ret
      exact ⟨rfl, below_chain HB hbq⟩
    | true =>
      obtain ⟨h8', hV1, hF1⟩ := hc rfl
      replace hV1 := hV1.nextV hb2
      clear hc hb2
      obtain ⟨c, hcc⟩ : ∃ c, (decide ((m : Int) ≤ 2) && decide ((l : Int) ≤ 2)) = c := ⟨_, rfl⟩
      have hli := hid (fun W => rLight_any s bo co m ca l cb 2 bn1 bd1 W)
      rw [hcc] at hli
      have Hcc := hid hcc
      clear hcc
      obtain ⟨x0, x1, x2⟩ := X.c3
      go_wp2_with fail
      refine (hli.out _).mono ?_; rintro e w3 ⟨rfl, hb3⟩
      clear x0 x1 x2
      replace X := X.next hb3
      replace hW := hW.next hb3
      replace hV0 := hV0.nextV hb3
      replace hV1 := hV1.nextV hb3
      replace HB := below_chain HB hb3
      clear hb3
      cases c with
      | false =>
        go_wp2_with fail
        refine (lpawake_any _ (hp.next HB)).mono ?_; rintro e wq ⟨rfl, hbq⟩
        go_wp2_with fail
        go_ret
        exact ⟨rfl, below_chain HB hbq⟩
      | true =>
        have hm2 : m ≤ 2 ∧ l ≤ 2 := by
          have := Hcc.out
          simp only [Bool.and_eq_true, decide_eq_true_eq] at this
          omega
        obtain ⟨VC, fC⟩ := ratW_light hW hm2.1 hm2.2
        obtain ⟨Xp, hXp⟩ : ∃ X, polOf l0 = X := ⟨_, rfl⟩
        obtain ⟨Yp, hYp⟩ : ∃ X, polOf l1 = X := ⟨_, rfl⟩
        have VX : PolV w3 (.slice a0 m0 k0) Xp := ⟨_, _, _, _, rfl, hV0, by rw [hXp]; exact EqP.refl _⟩
        have VY : PolV w3 (.slice a1 m1 k1) Yp := ⟨_, _, _, _, rfl, hV1, by rw [hYp]; exact EqP.refl _⟩
        have HL : LV w3 a0 m0 k0 l0 := hV0
        have fX : FitP 2 Xp := by rw [← hXp]; exact fit_polOf hF0 (by decide)
        have fY : FitP 2 Yp := by rw [← hYp]; exact fit_polOf hF1 (by decide)
        have HP := hp.next HB
        obtain ⟨vb, hvb⟩ : ∃ b, vlB l0 = b := ⟨_, rfl⟩
        have HV := hid hvb
        have hvv : (vb == vb) = true := by simp
        clear hXp hYp hV0 hV1 hF0 hF1 hp hvb hW h0 h1 hli Hcc hm2 bn1 bd1
        go_upto_region 3 with fail
        generalize w3 = W3 at *
        have hd := (Below.refl W3.heap.size W3).drew
        have hS0 : C3 w.heap.size (.bool s) (.slice bo m ca) (.slice co l cb) W3.drew := X.drew.c3
        have hKp : ∀ w' w'', (C3 w.heap.size (.bool s) (.slice bo m ca) (.slice co l cb) w') → Below w'.heap.size w' w'' → (C3 w.heap.size (.bool s) (.slice bo m ca) (.slice co l cb) w'') := fun w' w'' h hb => C3.next h hb
        clear X
        replace VX := VX.next hd
        replace VY := VY.next hd
        replace VC := VC.next hd
        replace HP := HP.next hd
        replace HL := HL.next hd
        replace HB := HB.trans (hd.mono HB.size)
        refine wp_region_held_drew (S := (fun w' => C3 w.heap.size (.bool s) (.slice bo m ca) (.slice co l cb) w')) (by kernel_rfl) (hS0) (fun hHeld => ?_)
        refine wpAnyH_ready (rs := [0]) (by kernel_rfl) (by simp) (AllReadyH.cons rfl (fun K hK => ?_) AllReadyH.nil)
        go_simp
        go_at_call 13
        refine (lpawake_any _ HP).mono ?_; rintro e wx1 ⟨rfl, hb1⟩
        replace VX := VX.next hb1
        replace VY := VY.next hb1
        replace VC := VC.next hb1
        replace HL := HL.next hb1
        replace HB := below_chain HB hb1
        go_wp2_with fail
        refine hK.out _ _ (hKp _ _ hHeld hb1) (fun hHeld => ?_)
        clear hK K hb1
        try simp only [Act.put, List.setIfInBounds_toArray, List.set_cons_zero, List.set_cons_succ]
        refine held_take (i := 1) (d := 22) (v := ?_) rfl rfl (by kernel_rfl) (by kernel_rfl) (by kernel_rfl) (fun _ _ _ h => h) (by rfl) ?_ hHeld ?_
        rotate_left
        · intro w hSw; (try dsimp only at hSw); go_simp; with_reducible rfl
        try simp only [Act.put, List.setIfInBounds_toArray, List.set_cons_zero, List.set_cons_succ]
        refine held_take (i := 2) (d := 23) (v := ?_) rfl rfl (by kernel_rfl) (by kernel_rfl) (by kernel_rfl) (fun _ _ _ h => h) (by rfl) ?_ hHeld ?_
        rotate_left
        · intro w hSw; (try dsimp only at hSw); go_simp; with_reducible rfl
        try simp only [Act.put, List.setIfInBounds_toArray, List.set_cons_zero, List.set_cons_succ]
        refine held_take (i := 4) (d := 25) (v := ?_) rfl rfl (by kernel_rfl) (by kernel_rfl) (by kernel_rfl) (fun _ _ _ h => h) (by rfl) ?_ hHeld ?_
        rotate_left
        · intro w hSw; (try dsimp only at hSw); go_simp; with_reducible rfl
        try simp only [Act.put, List.setIfInBounds_toArray, List.set_cons_zero, List.set_cons_succ]
        refine wpAnyH_ready (rs := [3]) (by kernel_rfl) (by simp) (AllReadyH.cons rfl (fun K hK => ?_) AllReadyH.nil)
        go_simp
        go_at_call 14
        refine (pValid_any _ _ _ _ _ HL).mono ?_; rw [HV.out]; rintro e wx2 ⟨rfl, hb2⟩
        replace VX := VX.next hb2
        replace VY := VY.next hb2
        replace VC := VC.next hb2
        replace HL := HL.next hb2
        replace HB := below_chain HB hb2
        go_wp2_with fail
        refine hK.out _ _ (hKp _ _ hHeld hb2) (fun hHeld => ?_)
        clear hK K hb2
        try simp only [Act.put, List.setIfInBounds_toArray, List.set_cons_zero, List.set_cons_succ]
        refine wpAnyH_ready (rs := [5]) (by kernel_rfl) (by simp) (AllReadyH.cons rfl (fun K hK => ?_) AllReadyH.nil)
        go_simp
        go_at_call 15
        refine (rPValid_any _ _ _ _ _ HL).mono ?_; rw [HV.out]; rintro e wx3 ⟨rfl, hb3⟩
        replace VX := VX.next hb3
        replace VY := VY.next hb3
        replace VC := VC.next hb3
        replace HB := below_chain HB hb3
        go_wp2_with fail
        refine hK.out _ _ (hKp _ _ hHeld hb3) (fun hHeld => ?_)
        clear hK K hb3
        try simp only [Act.put, List.setIfInBounds_toArray, List.set_cons_zero, List.set_cons_succ]
        refine held_take (i := 6) (d := 27) (v := ?_) rfl rfl (by kernel_rfl) (by kernel_rfl) (by kernel_rfl) (fun _ _ _ h => h) (by rfl) ?_ hHeld ?_
        rotate_left
        · intro w hSw; (try dsimp only at hSw); go_simp; with_reducible rfl
        try simp only [Act.put, List.setIfInBounds_toArray, List.set_cons_zero, List.set_cons_succ]
        refine held_take (i := 7) (d := 28) (v := ?_) rfl rfl (by kernel_rfl) (by kernel_rfl) (by kernel_rfl) (fun _ _ _ h => h) (by rfl) ?_ hHeld ?_
        rotate_left
        · intro w hSw; (try dsimp only at hSw); go_simp; with_reducible rfl
        try simp only [Act.put, List.setIfInBounds_toArray, List.set_cons_zero, List.set_cons_succ]
        refine held_take (i := 8) (d := 29) (v := ?_) rfl rfl (by kernel_rfl) (by kernel_rfl) (by kernel_rfl) (fun _ _ _ h => h) (by rfl) ?_ hHeld ?_
        rotate_left
        · intro w hSw; (try dsimp only at hSw); go_simp; with_reducible rfl
        try simp only [Act.put, List.setIfInBounds_toArray, List.set_cons_zero, List.set_cons_succ]
        refine held_take (i := 9) (d := 30) (v := ?_) rfl rfl (by kernel_rfl) (by kernel_rfl) (by kernel_rfl) (fun _ _ _ h => h) (by rfl) ?_ hHeld ?_
        rotate_left
        · intro w hSw; (try dsimp only at hSw); go_simp; with_reducible rfl
        try simp only [Act.put, List.setIfInBounds_toArray, List.set_cons_zero, List.set_cons_succ]
        refine held_take (i := 10) (d := 31) (v := ?_) rfl rfl (by kernel_rfl) (by kernel_rfl) (by kernel_rfl) (fun _ _ _ h => h) (by rfl) ?_ hHeld ?_
        rotate_left
        · intro w hSw; (try dsimp only at hSw); go_simp; with_reducible rfl
        try simp only [Act.put, List.setIfInBounds_toArray, List.set_cons_zero, List.set_cons_succ]
        refine held_take (i := 12) (d := 33) (v := ?_) rfl rfl (by kernel_rfl) (by kernel_rfl) (by kernel_rfl) (fun _ _ _ h => h) (by rfl) ?_ hHeld ?_
        rotate_left
        · intro w hSw; (try dsimp only at hSw); go_simp; with_reducible rfl
        try simp only [Act.put, List.setIfInBounds_toArray, List.set_cons_zero, List.set_cons_succ]
        refine held_take (i := 13) (d := 34) (v := ?_) rfl rfl (by kernel_rfl) (by kernel_rfl) (by kernel_rfl) (fun _ _ _ h => h) (by rfl) ?_ hHeld ?_
        rotate_left
        · intro w hSw; (try dsimp only at hSw); go_simp; with_reducible rfl
        try simp only [Act.put, List.setIfInBounds_toArray, List.set_cons_zero, List.set_cons_succ]
        refine wpAnyH_ready (rs := [11]) (by kernel_rfl) (by simp) (AllReadyH.cons rfl (fun K hK => ?_) AllReadyH.nil)
        go_simp
        go_at_call 17
        refine (pAdd_any Xp Yp _ _ _ VX VY 2 fX fY (by decide)).mono ?_; intro e wx4 hx4; obtain ⟨o4, n4, c4, rfl, N4, hb4⟩ := hx4.pn
        have f4 : FitP 5 (addP Xp Yp) := FitP.add fX fY
        replace VX := VX.next hb4
        replace VY := VY.next hb4
        replace VC := VC.next hb4
        replace HB := below_chain HB hb4
        go_wp2_with fail
        refine hK.out _ _ (hKp _ _ hHeld hb4) (fun hHeld => ?_)
        clear hK K hb4
        try simp only [Act.put, List.setIfInBounds_toArray, List.set_cons_zero, List.set_cons_succ]
        refine wpAnyH_ready (rs := [14]) (by kernel_rfl) (by simp) (AllReadyH.cons rfl (fun K hK => ?_) AllReadyH.nil)
        go_simp
        go_at_call 18
        refine (rPAdd_any Xp Yp _ _ _ VX VY 2 fX fY (by decide)).mono ?_; intro e wx5 hx5; obtain ⟨o5, n5, c5, rfl, N5, hb5⟩ := hx5.pn
        have f5 : FitP 5 (addP Xp Yp) := FitP.add fX fY
        replace VX := VX.next hb5
        replace VY := VY.next hb5
        replace VC := VC.next hb5
        replace N4 := N4.next hb5
        replace HB := below_chain HB hb5
        go_wp2_with fail
        refine hK.out _ _ (hKp _ _ hHeld hb5) (fun hHeld => ?_)
        clear hK K hb5
        try simp only [Act.put, List.setIfInBounds_toArray, List.set_cons_zero, List.set_cons_succ]
        refine wpAnyH_ready (rs := [15]) (by kernel_rfl) (by simp) (AllReadyH.cons rfl (fun K hK => ?_) AllReadyH.nil)
        go_simp
        go_at_call 16
        refine (rPSameE (addP Xp Yp) (addP Xp Yp) (EqP.refl _) _ _ _ _ _ _ _ N4 N5).mono ?_; rintro e wx6 ⟨rfl, hb6⟩
        replace VX := VX.next hb6
        replace VY := VY.next hb6
        replace VC := VC.next hb6
        replace HB := below_chain HB hb6
        go_wp2_with fail
        refine hK.out _ _ (hKp _ _ hHeld hb6) (fun hHeld => ?_)
        clear hK K hb6
        try simp only [Act.put, List.setIfInBounds_toArray, List.set_cons_zero, List.set_cons_succ]
        refine held_take (i := 16) (d := 37) (v := ?_) rfl rfl (by kernel_rfl) (by kernel_rfl) (by kernel_rfl) (fun _ _ _ h => h) (by rfl) ?_ hHeld ?_
        rotate_left
        · intro w hSw; (try dsimp only at hSw); go_simp; with_reducible rfl
        try simp only [Act.put, List.setIfInBounds_toArray, List.set_cons_zero, List.set_cons_succ]
        refine held_take (i := 17) (d := 38) (v := ?_) rfl rfl (by kernel_rfl) (by kernel_rfl) (by kernel_rfl) (fun _ _ _ h => h) (by rfl) ?_ hHeld ?_
        rotate_left
        · intro w hSw; (try dsimp only at hSw); go_simp; with_reducible rfl
        try simp only [Act.put, List.setIfInBounds_toArray, List.set_cons_zero, List.set_cons_succ]
        refine held_take (i := 18) (d := 39) (v := ?_) rfl rfl (by kernel_rfl) (by kernel_rfl) (by kernel_rfl) (fun _ _ _ h => h) (by rfl) ?_ hHeld ?_
        rotate_left
        · intro w hSw; (try dsimp only at hSw); go_simp; with_reducible rfl
        try simp only [Act.put, List.setIfInBounds_toArray, List.set_cons_zero, List.set_cons_succ]
        refine held_take (i := 19) (d := 40) (v := ?_) rfl rfl (by kernel_rfl) (by kernel_rfl) (by kernel_rfl) (fun _ _ _ h => h) (by rfl) ?_ hHeld ?_
        rotate_left
        · intro w hSw; (try dsimp only at hSw); go_simp; with_reducible rfl
        try simp only [Act.put, List.setIfInBounds_toArray, List.set_cons_zero, List.set_cons_succ]
        refine held_take (i := 21) (d := 42) (v := ?_) rfl rfl (by kernel_rfl) (by kernel_rfl) (by kernel_rfl) (fun _ _ _ h => h) (by rfl) ?_ hHeld ?_
        rotate_left
        · intro w hSw; (try dsimp only at hSw); go_simp; with_reducible rfl
        try simp only [Act.put, List.setIfInBounds_toArray, List.set_cons_zero, List.set_cons_succ]
        refine held_take (i := 22) (d := 43) (v := ?_) rfl rfl (by kernel_rfl) (by kernel_rfl) (by kernel_rfl) (fun _ _ _ h => h) (by rfl) ?_ hHeld ?_
        rotate_left
        · intro w hSw; (try dsimp only at hSw); go_simp; with_reducible rfl
        try simp only [Act.put, List.setIfInBounds_toArray, List.set_cons_zero, List.set_cons_succ]
        refine wpAnyH_ready (rs := [20]) (by kernel_rfl) (by simp) (AllReadyH.cons rfl (fun K hK => ?_) AllReadyH.nil)
        go_simp
        go_at_call 19
        refine (pMul_any Xp Yp _ _ _ VX VY 2 2 56 fX fY (.inl (len_lst _)) (by decide)).mono ?_; intro e wx7 hx7; obtain ⟨o7, n7, c7, rfl, N7, hb7⟩ := hx7.pn
        have f7 : FitP 286 (mulP Xp Yp) := (fit_mulP fX fY (.inl (len_lst _))).mono (by decide)
        replace VX := VX.next hb7
        replace VY := VY.next hb7
        replace VC := VC.next hb7
        replace HB := below_chain HB hb7
        go_wp2_with fail
        refine hK.out _ _ (hKp _ _ hHeld hb7) (fun hHeld => ?_)
        clear hK K hb7
        try simp only [Act.put, List.setIfInBounds_toArray, List.set_cons_zero, List.set_cons_succ]
        refine wpAnyH_ready (rs := [23]) (by kernel_rfl) (by simp) (AllReadyH.cons rfl (fun K hK => ?_) AllReadyH.nil)
        go_simp
        go_at_call 20
        refine (rPMul_any Xp Yp _ _ _ VX VY 2 2 56 fX fY (.inl (len_lst _)) (by decide)).mono ?_; intro e wx8 hx8; obtain ⟨o8, n8, c8, rfl, N8, hb8⟩ := hx8.pn
        have f8 : FitP 286 (mulP Xp Yp) := (fit_mulP fX fY (.inl (len_lst _))).mono (by decide)
        replace VX := VX.next hb8
        replace VC := VC.next hb8
        replace N7 := N7.next hb8
        replace HB := below_chain HB hb8
        go_wp2_with fail
        refine hK.out _ _ (hKp _ _ hHeld hb8) (fun hHeld => ?_)
        clear hK K hb8
        try simp only [Act.put, List.setIfInBounds_toArray, List.set_cons_zero, List.set_cons_succ]
        refine wpAnyH_ready (rs := [24]) (by kernel_rfl) (by simp) (AllReadyH.cons rfl (fun K hK => ?_) AllReadyH.nil)
        go_simp
        go_at_call 16
        refine (rPSameE (mulP Xp Yp) (mulP Xp Yp) (EqP.refl _) _ _ _ _ _ _ _ N7 N8).mono ?_; rintro e wx9 ⟨rfl, hb9⟩
        replace VX := VX.next hb9
        replace VC := VC.next hb9
        replace HB := below_chain HB hb9
        go_wp2_with fail
        refine hK.out _ _ (hKp _ _ hHeld hb9) (fun hHeld => ?_)
        clear hK K hb9
        try simp only [Act.put, List.setIfInBounds_toArray, List.set_cons_zero, List.set_cons_succ]
        refine held_take (i := 25) (d := 46) (v := ?_) rfl rfl (by kernel_rfl) (by kernel_rfl) (by kernel_rfl) (fun _ _ _ h => h) (by rfl) ?_ hHeld ?_
        rotate_left
        · intro w hSw; (try dsimp only at hSw); go_simp; with_reducible rfl
        try simp only [Act.put, List.setIfInBounds_toArray, List.set_cons_zero, List.set_cons_succ]
        refine held_take (i := 26) (d := 47) (v := ?_) rfl rfl (by kernel_rfl) (by kernel_rfl) (by kernel_rfl) (fun _ _ _ h => h) (by rfl) ?_ hHeld ?_
        rotate_left
        · intro w hSw; (try dsimp only at hSw); go_simp; with_reducible rfl
        try simp only [Act.put, List.setIfInBounds_toArray, List.set_cons_zero, List.set_cons_succ]
        refine held_take (i := 27) (d := 48) (v := ?_) rfl rfl (by kernel_rfl) (by kernel_rfl) (by kernel_rfl) (fun _ _ _ h => h) (by rfl) ?_ hHeld ?_
        rotate_left
        · intro w hSw; (try dsimp only at hSw); go_simp; with_reducible rfl
        try simp only [Act.put, List.setIfInBounds_toArray, List.set_cons_zero, List.set_cons_succ]
        refine held_take (i := 28) (d := 49) (v := ?_) rfl rfl (by kernel_rfl) (by kernel_rfl) (by kernel_rfl) (fun _ _ _ h => h) (by rfl) ?_ hHeld ?_
        rotate_left
        · intro w hSw; (try dsimp only at hSw); go_simp; with_reducible rfl
        try simp only [Act.put, List.setIfInBounds_toArray, List.set_cons_zero, List.set_cons_succ]
        refine held_take (i := 30) (d := 51) (v := ?_) rfl rfl (by kernel_rfl) (by kernel_rfl) (by kernel_rfl) (fun _ _ _ h => h) (by rfl) ?_ hHeld ?_
        rotate_left
        · intro w hSw; (try dsimp only at hSw); go_simp; with_reducible rfl
        try simp only [Act.put, List.setIfInBounds_toArray, List.set_cons_zero, List.set_cons_succ]
        refine held_take (i := 31) (d := 52) (v := ?_) rfl rfl (by kernel_rfl) (by kernel_rfl) (by kernel_rfl) (fun _ _ _ h => h) (by rfl) ?_ hHeld ?_
        rotate_left
        · intro w hSw; (try dsimp only at hSw); go_simp; with_reducible rfl
        try simp only [Act.put, List.setIfInBounds_toArray, List.set_cons_zero, List.set_cons_succ]
        refine wpAnyH_ready (rs := [29]) (by kernel_rfl) (by simp) (AllReadyH.cons rfl (fun K hK => ?_) AllReadyH.nil)
        go_simp
        go_at_call 21
        refine (pScale_any Xp cq _ _ _ VX VC 2 2 fX fC (by decide)).mono ?_; intro e wx10 hx10; obtain ⟨o10, n10, c10, rfl, N10, hb10⟩ := hx10.pn
        have f10 : FitP 28 (mulP Xp (constP cq)) := fit_scale fX fC (by decide)
        replace VX := VX.next hb10
        replace VC := VC.next hb10
        replace HB := below_chain HB hb10
        go_wp2_with fail
        refine hK.out _ _ (hKp _ _ hHeld hb10) (fun hHeld => ?_)
        clear hK K hb10
        try simp only [Act.put, List.setIfInBounds_toArray, List.set_cons_zero, List.set_cons_succ]
        refine wpAnyH_ready (rs := [32]) (by kernel_rfl) (by simp) (AllReadyH.cons rfl (fun K hK => ?_) AllReadyH.nil)
        go_simp
        go_at_call 22
        refine (rPScale_any Xp cq _ _ _ VX VC 2 2 fX fC (by decide)).mono ?_; intro e wx11 hx11; obtain ⟨o11, n11, c11, rfl, N11, hb11⟩ := hx11.pn
        have f11 : FitP 28 (mulP Xp (constP cq)) := fit_scale fX fC (by decide)
        replace VX := VX.next hb11
        replace N10 := N10.next hb11
        replace HB := below_chain HB hb11
        go_wp2_with fail
        refine hK.out _ _ (hKp _ _ hHeld hb11) (fun hHeld => ?_)
        clear hK K hb11
        try simp only [Act.put, List.setIfInBounds_toArray, List.set_cons_zero, List.set_cons_succ]
        refine wpAnyH_ready (rs := [33]) (by kernel_rfl) (by simp) (AllReadyH.cons rfl (fun K hK => ?_) AllReadyH.nil)
        go_simp
        go_at_call 16
        refine (rPSameE (mulP Xp (constP cq)) (mulP Xp (constP cq)) (EqP.refl _) _ _ _ _ _ _ _ N10 N11).mono ?_; rintro e wx12 ⟨rfl, hb12⟩
        replace VX := VX.next hb12
        replace HB := below_chain HB hb12
        go_wp2_with fail
        refine hK.out _ _ (hKp _ _ hHeld hb12) (fun hHeld => ?_)
        clear hK K hb12
        try simp only [Act.put, List.setIfInBounds_toArray, List.set_cons_zero, List.set_cons_succ]
        refine held_take (i := 34) (d := 55) (v := ?_) rfl rfl (by kernel_rfl) (by kernel_rfl) (by kernel_rfl) (fun _ _ _ h => h) (by rfl) ?_ hHeld ?_
        rotate_left
        · intro w hSw; (try dsimp only at hSw); go_simp; with_reducible rfl
        try simp only [Act.put, List.setIfInBounds_toArray, List.set_cons_zero, List.set_cons_succ]
        refine held_take (i := 35) (d := 56) (v := ?_) rfl rfl (by kernel_rfl) (by kernel_rfl) (by kernel_rfl) (fun _ _ _ h => h) (by rfl) ?_ hHeld ?_
        rotate_left
        · intro w hSw; (try dsimp only at hSw); go_simp; with_reducible rfl
        try simp only [Act.put, List.setIfInBounds_toArray, List.set_cons_zero, List.set_cons_succ]
        refine held_take (i := 36) (d := 57) (v := ?_) rfl rfl (by kernel_rfl) (by kernel_rfl) (by kernel_rfl) (fun _ _ _ h => h) (by rfl) ?_ hHeld ?_
        rotate_left
        · intro w hSw; (try dsimp only at hSw); go_simp; with_reducible rfl
        try simp only [Act.put, List.setIfInBounds_toArray, List.set_cons_zero, List.set_cons_succ]
        refine held_take (i := 38) (d := 59) (v := ?_) rfl rfl (by kernel_rfl) (by kernel_rfl) (by kernel_rfl) (fun _ _ _ h => h) (by rfl) ?_ hHeld ?_
        rotate_left
        · intro w hSw; (try dsimp only at hSw); go_simp; with_reducible rfl
        try simp only [Act.put, List.setIfInBounds_toArray, List.set_cons_zero, List.set_cons_succ]
        refine wpAnyH_ready (rs := [37]) (by kernel_rfl) (by simp) (AllReadyH.cons rfl (fun K hK => ?_) AllReadyH.nil)
        go_simp
        go_at_call 24
        refine (pLowest_any Xp _ _ VX 2 fX (by decide)).mono ?_; rintro e wx13 ⟨v13, rfl, C13, hb13⟩
        obtain ⟨ra13, rb13, rc13, rd13, re13, rf13, rg13, rfl⟩ := C13.shape6
        have f13 : Fit 2 (Xp (0, 0, 0)) := fX (0, 0, 0) (by decide)
        replace VX := VX.next hb13
        replace HB := below_chain HB hb13
        go_wp2_with fail
        refine hK.out _ _ (hKp _ _ hHeld hb13) (fun hHeld => ?_)
        clear hK K hb13
        try simp only [Act.put, List.setIfInBounds_toArray, List.set_cons_zero, List.set_cons_succ]
        refine wpAnyH_ready (rs := [39]) (by kernel_rfl) (by simp) (AllReadyH.cons rfl (fun K hK => ?_) AllReadyH.nil)
        go_simp
        go_at_call 25
        refine (rLowest_any Xp _ _ VX).mono ?_; rintro e wx14 ⟨v14, rfl, C14, hb14⟩
        obtain ⟨ra14, rb14, rc14, rd14, re14, rf14, rg14, rfl⟩ := C14.shape6
        have f14 : Fit 2 (Xp (0, 0, 0)) := fX (0, 0, 0) (by decide)
        replace C13 := C13.next hb14
        replace HB := below_chain HB hb14
        go_wp2_with fail
        refine hK.out _ _ (hKp _ _ hHeld hb14) (fun hHeld => ?_)
        clear hK K hb14
        try simp only [Act.put, List.setIfInBounds_toArray, List.set_cons_zero, List.set_cons_succ]
        refine wpAnyH_ready (rs := [40]) (by kernel_rfl) (by simp) (AllReadyH.cons rfl (fun K hK => ?_) AllReadyH.nil)
        go_simp
        go_at_call 23
        refine (rSameE (Xp (0, 0, 0)) (Xp (0, 0, 0)) (rfl) _ _ _ C13 C14).mono ?_; rintro e wx15 ⟨rfl, hb15⟩
        replace HB := below_chain HB hb15
        go_wp2_with fail
        refine hK.out _ _ (hKp _ _ hHeld hb15) (fun hHeld => ?_)
        clear hK K hb15
        try simp only [Act.put, List.setIfInBounds_toArray, List.set_cons_zero, List.set_cons_succ]
        refine held_take (i := 41) (d := 62) (v := ?_) rfl rfl (by kernel_rfl) (by kernel_rfl) (by kernel_rfl) (fun _ _ _ h => h) (by rfl) ?_ hHeld ?_
        rotate_left
        · intro w hSw; (try dsimp only at hSw); go_simp; with_reducible rfl
        try simp only [Act.put, List.setIfInBounds_toArray, List.set_cons_zero, List.set_cons_succ]
        refine held_take (i := 42) (d := 6) (v := ?_) rfl rfl (by kernel_rfl) (by kernel_rfl) (by kernel_rfl) (fun _ _ _ h => h) (by rfl) ?_ hHeld ?_
        rotate_left
        · intro w hSw; (try dsimp only at hSw); go_simp; with_reducible rfl
        try simp only [Act.put, List.setIfInBounds_toArray, List.set_cons_zero, List.set_cons_succ]
        refine wpAnyH_done (by kernel_rfl) ?_ _
        go_wp2_with fail
        go_ret
        exact ⟨rfl, HB⟩

end Go.Proofs.YtgohfieleckmgaaGreatDoor
