/-
  The walk of PolynomialMakes. No condition but the table of powers of ten.
-/
import Derived.Test.YtgohfieleckmgaaGreatDoorPdg
namespace Go.Proofs.YtgohfieleckmgaaGreatDoor
open Go.RowKit
set_option linter.unusedSimpArgs false
set_option linter.unusedVariables false

theorem light_le {n m : Nat} (h : (decide ((n : Int) ≤ 2) && decide ((m : Int) ≤ 2)) = true) : n ≤ 2 ∧ m ≤ 2 := by
  simp only [Bool.and_eq_true, decide_eq_true_eq] at h
  omega

set_option maxHeartbeats 8000000 in
set_option maxRecDepth 100000 in
theorem walkMakes (w : World) (hp : Pow w) (a0 : Option Addr) (m0 k0 : Nat) (l0 : List Mr) (h0 : Pol RatW w a0 m0 k0 l0) (s : Bool) (N D : List Nat) (bo : Option Addr) (m ca : Nat) (co : Option Addr) (l cb : Nat) (hN1 : Sl w bo m ca (u32s N)) (hD1 : Sl w co l cb (u32s D)) (LN1 : Lim N) (LD1 : Lim D) (zb1 : bo = none → ca = 0) (zc1 : co = none → cb = 0) (iv : Int) (s0 : Bool) (po0 : Option Addr) (pn0 pc0 : Nat) (qo0 : Option Addr) (qn0 qc0 : Nat) (s1 : Bool) (po1 : Option Addr) (pn1 pc1 : Nat) (qo1 : Option Addr) (qn1 qc1 : Nat) (s2 : Bool) (po2 : Option Addr) (pn2 pc2 : Nat) (qo2 : Option Addr) (qn2 qc2 : Nat) (x y z : Rat) (g0 : RatW w (.agg #[.bool s0, .slice po0 pn0 pc0, .slice qo0 qn0 qc0]) x) (g1 : RatW w (.agg #[.bool s1, .slice po1 pn1 pc1, .slice qo1 qn1 qc1]) y) (g2 : RatW w (.agg #[.bool s2, .slice po2 pn2 pc2, .slice qo2 qn2 qc2]) z) :
    Calls Tryz.prog 7 #[.slice a0 m0 k0, .agg #[.bool s, .slice bo m ca, .slice co l cb], .int .i64 iv, .agg #[.bool s0, .slice po0 pn0 pc0, .slice qo0 qn0 qc0, .bool s1, .slice po1 pn1 pc1, .slice qo1 qn1 qc1, .bool s2, .slice po2 pn2 pc2, .slice qo2 qn2 qc2]] w fun e w' => e = .returned (.bool true) ∧ Below w.heap.size w w' := by
  have bn1 := hN1.bound
  have bd1 := hD1.bound
  have hW : RatW w (Value.agg #[.bool s, .slice bo m ca, .slice co l cb]) (ratOf s N D) := ⟨s, N, D, bo, co, m, ca, l, cb, rfl, hN1, hD1, LN1, LD1, zb1, zc1, rfl⟩
  generalize ratOf s N D = cq at *
  clear hN1 hD1 LN1 LD1 zb1 zc1
  have X : Bk w w.heap.size (.bool s) (.slice bo m ca) (.slice co l cb) ((w.alloc (.cells #[.bool s, .slice bo m ca, .slice co l cb] 25)).alloc (.cells #[.bool s0, .slice po0 pn0 pc0, .slice qo0 qn0 qc0, .bool s1, .slice po1 pn1 pc1, .slice qo1 qn1 qc1, .bool s2, .slice po2 pn2 pc2, .slice qo2 qn2 qc2] 45)) := (Bk.start (Below.refl w.heap.size w) rfl (.bool s) (.slice bo m ca) (.slice co l cb) 25).new _
  have hA : At9 (w.heap.size + 1) s0 po0 pn0 pc0 qo0 qn0 qc0 s1 po1 pn1 pc1 qo1 qn1 qc1 s2 po2 pn2 pc2 qo2 qn2 qc2 ((w.alloc (.cells #[.bool s, .slice bo m ca, .slice co l cb] 25)).alloc (.cells #[.bool s0, .slice po0 pn0 pc0, .slice qo0 qn0 qc0, .bool s1, .slice po1 pn1 pc1, .slice qo1 qn1 qc1, .bool s2, .slice po2 pn2 pc2, .slice qo2 qn2 qc2] 45)) := by
    unfold At9
    simp [go_sem]
  have HB := X.bel
  replace hW := hW.next HB
  replace g0 := g0.next HB
  replace g1 := g1.next HB
  replace g2 := g2.next HB
  have bb0 := ratW_bounds g0
  have bb1 := ratW_bounds g1
  have bb2 := ratW_bounds g2
  have hbd0 := h0.bound
  go_enter Tryz.func7, Tryz.ntmps7
  go_wp2_with fail
  refine (plight_any _ _ _ _ _ (h0.nextW HB)).mono ?_; rintro e w1 ⟨⟨c, rfl, hc⟩, hb1⟩
  replace X := X.next hb1
  replace hA := hA.next hb1
  replace hW := hW.next hb1
  replace g0 := g0.next hb1
  replace g1 := g1.next hb1
  replace g2 := g2.next hb1
  replace HB := below_chain HB hb1
  cases c with
  | false =>
    clear hc
    go_wp2_with fail
    refine (lpawake_any _ (hp.next HB)).mono ?_; rintro e wq ⟨rfl, hbq⟩
    go_wp2_with fail
    go_ret
    exact ⟨rfl, below_chain HB hbq⟩
  | true =>
    obtain ⟨h8, hV0, hF0⟩ := hc rfl
    replace hV0 := hV0.nextV hb1
    clear hc hb1
    obtain ⟨c, hcc0⟩ : ∃ c, (decide ((m : Int) ≤ 2) && decide ((l : Int) ≤ 2)) = c := ⟨_, rfl⟩
    have hli := hid (fun W => rLight_any s bo co m ca l cb 2 bn1 bd1 W)
    rw [hcc0] at hli
    have Hcc0 := hid hcc0
    clear hcc0
    obtain ⟨x0, x1, x2⟩ := X.c3
    go_wp2_with fail
    refine (hli.out _).mono ?_; rintro e w2 ⟨rfl, hb2⟩
    clear x0 x1 x2 hli
    replace X := X.next hb2
    replace hA := hA.next hb2
    replace hW := hW.next hb2
    replace g0 := g0.next hb2
    replace g1 := g1.next hb2
    replace g2 := g2.next hb2
    replace hV0 := hV0.nextV hb2
    replace HB := below_chain HB hb2
    clear hb2
    cases c with
    | false =>
      go_wp2_with fail
      refine (lpawake_any _ (hp.next HB)).mono ?_; rintro e wq ⟨rfl, hbq⟩
      go_wp2_with fail
      go_ret
      exact ⟨rfl, below_chain HB hbq⟩
    | true =>
      have hm0 := light_le Hcc0.out
      clear Hcc0
      obtain ⟨c, hcc1⟩ : ∃ c, (decide ((pn0 : Int) ≤ 2) && decide ((qn0 : Int) ≤ 2)) = c := ⟨_, rfl⟩
      have hli := hid (fun W => rLight_any s0 po0 qo0 pn0 pc0 qn0 qc0 2 bb0.1 bb0.2 W)
      rw [hcc1] at hli
      have Hcc1 := hid hcc1
      clear hcc1
      obtain ⟨x0, x1, x2⟩ := At9.c0 hA
      go_wp2_with fail
      refine (hli.out _).mono ?_; rintro e w3 ⟨rfl, hb3⟩
      clear x0 x1 x2 hli
      replace X := X.next hb3
      replace hA := hA.next hb3
      replace hW := hW.next hb3
      replace g0 := g0.next hb3
      replace g1 := g1.next hb3
      replace g2 := g2.next hb3
      replace hV0 := hV0.nextV hb3
      replace HB := below_chain HB hb3
      clear hb3
      cases c with
      | false =>
        go_wp2_with fail
        refine (lpawake_any _ (hp.next HB)).mono ?_; rintro e wq ⟨rfl, hbq⟩
        go_wp2_with fail
        go_ret
        exact ⟨rfl, below_chain HB hbq⟩
      | true =>
        have hm1 := light_le Hcc1.out
        clear Hcc1
        obtain ⟨c, hcc2⟩ : ∃ c, (decide ((pn1 : Int) ≤ 2) && decide ((qn1 : Int) ≤ 2)) = c := ⟨_, rfl⟩
        have hli := hid (fun W => rLight_any s1 po1 qo1 pn1 pc1 qn1 qc1 2 bb1.1 bb1.2 W)
        rw [hcc2] at hli
        have Hcc2 := hid hcc2
        clear hcc2
        obtain ⟨x0, x1, x2⟩ := At9.c1 hA
        go_wp2_with fail
        refine (hli.out _).mono ?_; rintro e w4 ⟨rfl, hb4⟩
        clear x0 x1 x2 hli
        replace X := X.next hb4
        replace hA := hA.next hb4
        replace hW := hW.next hb4
        replace g0 := g0.next hb4
        replace g1 := g1.next hb4
        replace g2 := g2.next hb4
        replace hV0 := hV0.nextV hb4
        replace HB := below_chain HB hb4
        clear hb4
        cases c with
        | false =>
          go_wp2_with fail
          refine (lpawake_any _ (hp.next HB)).mono ?_; rintro e wq ⟨rfl, hbq⟩
          go_wp2_with fail
          go_ret
          exact ⟨rfl, below_chain HB hbq⟩
        | true =>
          have hm2 := light_le Hcc2.out
          clear Hcc2
          obtain ⟨c, hcc3⟩ : ∃ c, (decide ((pn2 : Int) ≤ 2) && decide ((qn2 : Int) ≤ 2)) = c := ⟨_, rfl⟩
          have hli := hid (fun W => rLight_any s2 po2 qo2 pn2 pc2 qn2 qc2 2 bb2.1 bb2.2 W)
          rw [hcc3] at hli
          have Hcc3 := hid hcc3
          clear hcc3
          obtain ⟨x0, x1, x2⟩ := At9.c2 hA
          go_wp2_with fail
          refine (hli.out _).mono ?_; rintro e w5 ⟨rfl, hb5⟩
          clear x0 x1 x2 hli
          replace X := X.next hb5
          replace hA := hA.next hb5
          replace hW := hW.next hb5
          replace g0 := g0.next hb5
          replace g1 := g1.next hb5
          replace g2 := g2.next hb5
          replace hV0 := hV0.nextV hb5
          replace HB := below_chain HB hb5
          clear hb5
          cases c with
          | false =>
            go_wp2_with fail
            refine (lpawake_any _ (hp.next HB)).mono ?_; rintro e wq ⟨rfl, hbq⟩
            go_wp2_with fail
            go_ret
            exact ⟨rfl, below_chain HB hbq⟩
          | true =>
            have hm3 := light_le Hcc3.out
            clear Hcc3
            obtain ⟨VC, fC⟩ := ratW_light hW hm0.1 hm0.2
            obtain ⟨V0, e0⟩ := ratW_light g0 hm1.1 hm1.2
            obtain ⟨V1, e1⟩ := ratW_light g1 hm2.1 hm2.2
            obtain ⟨V2, e2⟩ := ratW_light g2 hm3.1 hm3.2
            obtain ⟨Xp, hXp⟩ : ∃ X, polOf l0 = X := ⟨_, rfl⟩
            have VX : PolV w5 (.slice a0 m0 k0) Xp := ⟨_, _, _, _, rfl, hV0, by rw [hXp]; exact EqP.refl _⟩
            have fX : FitP 2 Xp := by rw [← hXp]; exact fit_polOf hF0 (by decide)
            have HP := hp.next HB
            clear hXp hV0 hF0 hp hW h0 g0 g1 g2 hm0 hm1 hm2 hm3 bn1 bd1 bb0 bb1 bb2
            go_upto_region 3 with fail
            generalize w5 = W3 at *
            have hd := (Below.refl W3.heap.size W3).drew
            have hS0 : C3 w.heap.size (.bool s) (.slice bo m ca) (.slice co l cb) W3.drew ∧ At9 (w.heap.size + 1) s0 po0 pn0 pc0 qo0 qn0 qc0 s1 po1 pn1 pc1 qo1 qn1 qc1 s2 po2 pn2 pc2 qo2 qn2 qc2 W3.drew := ⟨X.drew.c3, hA.next hd⟩
            have hKp : ∀ w' w'', (C3 w.heap.size (.bool s) (.slice bo m ca) (.slice co l cb) w' ∧ At9 (w.heap.size + 1) s0 po0 pn0 pc0 qo0 qn0 qc0 s1 po1 pn1 pc1 qo1 qn1 qc1 s2 po2 pn2 pc2 qo2 qn2 qc2 w') → Below w'.heap.size w' w'' → (C3 w.heap.size (.bool s) (.slice bo m ca) (.slice co l cb) w'' ∧ At9 (w.heap.size + 1) s0 po0 pn0 pc0 qo0 qn0 qc0 s1 po1 pn1 pc1 qo1 qn1 qc1 s2 po2 pn2 pc2 qo2 qn2 qc2 w'') := fun w' w'' h hb => ⟨C3.next h.1 hb, h.2.next hb⟩
            clear X hA
            replace VX := VX.next hd
            replace VC := VC.next hd
            replace V0 := V0.next hd
            replace V1 := V1.next hd
            replace V2 := V2.next hd
            replace HP := HP.next hd
            replace HB := HB.trans (hd.mono HB.size)
            refine wp_region_held_drew (S := (fun w' => C3 w.heap.size (.bool s) (.slice bo m ca) (.slice co l cb) w' ∧ At9 (w.heap.size + 1) s0 po0 pn0 pc0 qo0 qn0 qc0 s1 po1 pn1 pc1 qo1 qn1 qc1 s2 po2 pn2 pc2 qo2 qn2 qc2 w')) (by kernel_rfl) (hS0) (fun hHeld => ?_)
            refine wpAnyH_ready (rs := [0]) (by kernel_rfl) (by simp) (AllReadyH.cons rfl (fun K hK => ?_) AllReadyH.nil)
            go_simp
            go_at_call 13
            refine (lpawake_any _ HP).mono ?_; rintro e wx1 ⟨rfl, hb1⟩
            replace VX := VX.next hb1
            replace VC := VC.next hb1
            replace V0 := V0.next hb1
            replace V1 := V1.next hb1
            replace V2 := V2.next hb1
            replace HB := below_chain HB hb1
            go_wp2_with fail
            refine hK.out _ _ (hKp _ _ hHeld hb1) (fun hHeld => ?_)
            clear hK K hb1
            try simp only [Act.put, List.setIfInBounds_toArray, List.set_cons_zero, List.set_cons_succ]
            refine held_take (i := 1) (d := 37) (v := ?_) rfl rfl (by kernel_rfl) (by kernel_rfl) (by kernel_rfl) (fun _ _ _ h => h) (by rfl) ?_ hHeld ?_
            rotate_left
            · intro w hSw; obtain ⟨⟨c1', c2', c3'⟩, q0', q1', q2', q3', q4', q5', q6', q7', q8'⟩ := hSw; go_simp; with_reducible rfl
            try simp only [Act.put, List.setIfInBounds_toArray, List.set_cons_zero, List.set_cons_succ]
            refine held_take (i := 2) (d := 38) (v := ?_) rfl rfl (by kernel_rfl) (by kernel_rfl) (by kernel_rfl) (fun _ _ _ h => h) (by rfl) ?_ hHeld ?_
            rotate_left
            · intro w hSw; obtain ⟨⟨c1', c2', c3'⟩, q0', q1', q2', q3', q4', q5', q6', q7', q8'⟩ := hSw; go_simp; with_reducible rfl
            try simp only [Act.put, List.setIfInBounds_toArray, List.set_cons_zero, List.set_cons_succ]
            refine held_take (i := 4) (d := 40) (v := ?_) rfl rfl (by kernel_rfl) (by kernel_rfl) (by kernel_rfl) (fun _ _ _ h => h) (by rfl) ?_ hHeld ?_
            rotate_left
            · intro w hSw; obtain ⟨⟨c1', c2', c3'⟩, q0', q1', q2', q3', q4', q5', q6', q7', q8'⟩ := hSw; go_simp; with_reducible rfl
            try simp only [Act.put, List.setIfInBounds_toArray, List.set_cons_zero, List.set_cons_succ]
            refine wpAnyH_ready (rs := [3]) (by kernel_rfl) (by simp) (AllReadyH.cons rfl (fun K hK => ?_) AllReadyH.nil)
            go_simp
            go_at_call 29
            refine (pConst_any cq _ _ VC 2 fC (by decide)).mono ?_; intro e wx2 hx2; obtain ⟨o2, n2, c2, rfl, N2, hb2⟩ := hx2.pn
            have f2 : FitP 2 (constP cq) := fitP_const fC
            replace VX := VX.next hb2
            replace VC := VC.next hb2
            replace V0 := V0.next hb2
            replace V1 := V1.next hb2
            replace V2 := V2.next hb2
            replace HB := below_chain HB hb2
            go_wp2_with fail
            refine hK.out _ _ (hKp _ _ hHeld hb2) (fun hHeld => ?_)
            clear hK K hb2
            try simp only [Act.put, List.setIfInBounds_toArray, List.set_cons_zero, List.set_cons_succ]
            refine wpAnyH_ready (rs := [5]) (by kernel_rfl) (by simp) (AllReadyH.cons rfl (fun K hK => ?_) AllReadyH.nil)
            go_simp
            go_at_call 33
            refine (rPConst_any cq _ _ VC 2 fC (by decide)).mono ?_; intro e wx3 hx3; obtain ⟨o3, n3, c3, rfl, N3, hb3⟩ := hx3.pn
            have f3 : FitP 2 (constP cq) := fitP_const fC
            replace VX := VX.next hb3
            replace V0 := V0.next hb3
            replace V1 := V1.next hb3
            replace V2 := V2.next hb3
            replace N2 := N2.next hb3
            replace HB := below_chain HB hb3
            go_wp2_with fail
            refine hK.out _ _ (hKp _ _ hHeld hb3) (fun hHeld => ?_)
            clear hK K hb3
            try simp only [Act.put, List.setIfInBounds_toArray, List.set_cons_zero, List.set_cons_succ]
            refine wpAnyH_ready (rs := [6]) (by kernel_rfl) (by simp) (AllReadyH.cons rfl (fun K hK => ?_) AllReadyH.nil)
            go_simp
            go_at_call 16
            refine (rPSameE (constP cq) (constP cq) (EqP.refl _) _ _ _ _ _ _ _ N2 N3).mono ?_; rintro e wx4 ⟨rfl, hb4⟩
            replace VX := VX.next hb4
            replace V0 := V0.next hb4
            replace V1 := V1.next hb4
            replace V2 := V2.next hb4
            replace HB := below_chain HB hb4
            go_wp2_with fail
            refine hK.out _ _ (hKp _ _ hHeld hb4) (fun hHeld => ?_)
            clear hK K hb4
            try simp only [Act.put, List.setIfInBounds_toArray, List.set_cons_zero, List.set_cons_succ]
            refine held_take (i := 7) (d := 43) (v := ?_) rfl rfl (by kernel_rfl) (by kernel_rfl) (by kernel_rfl) (fun _ _ _ h => h) (by rfl) ?_ hHeld ?_
            rotate_left
            · intro w hSw; obtain ⟨⟨c1', c2', c3'⟩, q0', q1', q2', q3', q4', q5', q6', q7', q8'⟩ := hSw; go_simp; with_reducible rfl
            try simp only [Act.put, List.setIfInBounds_toArray, List.set_cons_zero, List.set_cons_succ]
            refine held_take (i := 8) (d := 44) (v := ?_) rfl rfl (by kernel_rfl) (by kernel_rfl) (by kernel_rfl) (fun _ _ _ h => h) (by rfl) ?_ hHeld ?_
            rotate_left
            · intro w hSw; obtain ⟨⟨c1', c2', c3'⟩, q0', q1', q2', q3', q4', q5', q6', q7', q8'⟩ := hSw; go_simp; with_reducible rfl
            try simp only [Act.put, List.setIfInBounds_toArray, List.set_cons_zero, List.set_cons_succ]
            refine held_take (i := 9) (d := 45) (v := ?_) rfl rfl (by kernel_rfl) (by kernel_rfl) (by kernel_rfl) (fun _ _ _ h => h) (by rfl) ?_ hHeld ?_
            rotate_left
            · intro w hSw; obtain ⟨⟨c1', c2', c3'⟩, q0', q1', q2', q3', q4', q5', q6', q7', q8'⟩ := hSw; go_simp; with_reducible rfl
            try simp only [Act.put, List.setIfInBounds_toArray, List.set_cons_zero, List.set_cons_succ]
            refine held_take (i := 11) (d := 47) (v := ?_) rfl rfl (by kernel_rfl) (by kernel_rfl) (by kernel_rfl) (fun _ _ _ h => h) (by rfl) ?_ hHeld ?_
            rotate_left
            · intro w hSw; obtain ⟨⟨c1', c2', c3'⟩, q0', q1', q2', q3', q4', q5', q6', q7', q8'⟩ := hSw; go_simp; with_reducible rfl
            try simp only [Act.put, List.setIfInBounds_toArray, List.set_cons_zero, List.set_cons_succ]
            refine wpAnyH_ready (rs := [10]) (by kernel_rfl) (by simp) (AllReadyH.cons rfl (fun K hK => ?_) AllReadyH.nil)
            go_simp
            go_at_call 34
            refine (pParam_any iv _).mono ?_; intro e wx5 hx5; obtain ⟨o5, n5, c5, rfl, N5, hb5⟩ := hx5.pn
            have f5 : FitP 1 (paramP iv) := fit_param iv
            replace VX := VX.next hb5
            replace V0 := V0.next hb5
            replace V1 := V1.next hb5
            replace V2 := V2.next hb5
            replace HB := below_chain HB hb5
            go_wp2_with fail
            refine hK.out _ _ (hKp _ _ hHeld hb5) (fun hHeld => ?_)
            clear hK K hb5
            try simp only [Act.put, List.setIfInBounds_toArray, List.set_cons_zero, List.set_cons_succ]
            refine wpAnyH_ready (rs := [12]) (by kernel_rfl) (by simp) (AllReadyH.cons rfl (fun K hK => ?_) AllReadyH.nil)
            go_simp
            go_at_call 35
            refine (rPParam_any iv _).mono ?_; intro e wx6 hx6; obtain ⟨o6, n6, c6, rfl, N6, hb6⟩ := hx6.pn
            have f6 : FitP 1 (paramP iv) := fit_param iv
            replace VX := VX.next hb6
            replace V0 := V0.next hb6
            replace V1 := V1.next hb6
            replace V2 := V2.next hb6
            replace N5 := N5.next hb6
            replace HB := below_chain HB hb6
            go_wp2_with fail
            refine hK.out _ _ (hKp _ _ hHeld hb6) (fun hHeld => ?_)
            clear hK K hb6
            try simp only [Act.put, List.setIfInBounds_toArray, List.set_cons_zero, List.set_cons_succ]
            refine wpAnyH_ready (rs := [13]) (by kernel_rfl) (by simp) (AllReadyH.cons rfl (fun K hK => ?_) AllReadyH.nil)
            go_simp
            go_at_call 16
            refine (rPSameE (paramP iv) (paramP iv) (EqP.refl _) _ _ _ _ _ _ _ N5 N6).mono ?_; rintro e wx7 ⟨rfl, hb7⟩
            replace VX := VX.next hb7
            replace V0 := V0.next hb7
            replace V1 := V1.next hb7
            replace V2 := V2.next hb7
            replace HB := below_chain HB hb7
            go_wp2_with fail
            refine hK.out _ _ (hKp _ _ hHeld hb7) (fun hHeld => ?_)
            clear hK K hb7
            try simp only [Act.put, List.setIfInBounds_toArray, List.set_cons_zero, List.set_cons_succ]
            refine held_take (i := 14) (d := 50) (v := ?_) rfl rfl (by kernel_rfl) (by kernel_rfl) (by kernel_rfl) (fun _ _ _ h => h) (by rfl) ?_ hHeld ?_
            rotate_left
            · intro w hSw; obtain ⟨⟨c1', c2', c3'⟩, q0', q1', q2', q3', q4', q5', q6', q7', q8'⟩ := hSw; go_simp; with_reducible rfl
            try simp only [Act.put, List.setIfInBounds_toArray, List.set_cons_zero, List.set_cons_succ]
            refine held_take (i := 15) (d := 51) (v := ?_) rfl rfl (by kernel_rfl) (by kernel_rfl) (by kernel_rfl) (fun _ _ _ h => h) (by rfl) ?_ hHeld ?_
            rotate_left
            · intro w hSw; obtain ⟨⟨c1', c2', c3'⟩, q0', q1', q2', q3', q4', q5', q6', q7', q8'⟩ := hSw; go_simp; with_reducible rfl
            try simp only [Act.put, List.setIfInBounds_toArray, List.set_cons_zero, List.set_cons_succ]
            refine held_take (i := 16) (d := 52) (v := ?_) rfl rfl (by kernel_rfl) (by kernel_rfl) (by kernel_rfl) (fun _ _ _ h => h) (by rfl) ?_ hHeld ?_
            rotate_left
            · intro w hSw; obtain ⟨⟨c1', c2', c3'⟩, q0', q1', q2', q3', q4', q5', q6', q7', q8'⟩ := hSw; go_simp; with_reducible rfl
            try simp only [Act.put, List.setIfInBounds_toArray, List.set_cons_zero, List.set_cons_succ]
            refine held_take (i := 17) (d := 53) (v := ?_) rfl rfl (by kernel_rfl) (by kernel_rfl) (by kernel_rfl) (fun _ _ _ h => h) (by rfl) ?_ hHeld ?_
            rotate_left
            · intro w hSw; obtain ⟨⟨c1', c2', c3'⟩, q0', q1', q2', q3', q4', q5', q6', q7', q8'⟩ := hSw; go_simp; with_reducible rfl
            try simp only [Act.put, List.setIfInBounds_toArray, List.set_cons_zero, List.set_cons_succ]
            refine held_take (i := 19) (d := 55) (v := ?_) rfl rfl (by kernel_rfl) (by kernel_rfl) (by kernel_rfl) (fun _ _ _ h => h) (by rfl) ?_ hHeld ?_
            rotate_left
            · intro w hSw; obtain ⟨⟨c1', c2', c3'⟩, q0', q1', q2', q3', q4', q5', q6', q7', q8'⟩ := hSw; go_simp; with_reducible rfl
            try simp only [Act.put, List.setIfInBounds_toArray, List.set_cons_zero, List.set_cons_succ]
            refine held_take (i := 20) (d := 56) (v := ?_) rfl rfl (by kernel_rfl) (by kernel_rfl) (by kernel_rfl) (fun _ _ _ h => h) (by rfl) ?_ hHeld ?_
            rotate_left
            · intro w hSw; obtain ⟨⟨c1', c2', c3'⟩, q0', q1', q2', q3', q4', q5', q6', q7', q8'⟩ := hSw; go_simp; with_reducible rfl
            try simp only [Act.put, List.setIfInBounds_toArray, List.set_cons_zero, List.set_cons_succ]
            refine wpAnyH_ready (rs := [18]) (by kernel_rfl) (by simp) (AllReadyH.cons rfl (fun K hK => ?_) AllReadyH.nil)
            go_simp
            go_at_call 36
            refine (pEvalP_any Xp _ _ _ _ _ _ _ _ _ _ _ _ _ _ _ _ _ _ _ _ _ _ _ _ _ _ VX V0 V1 V2 2 2 fX e0 e1 e2 (by decide)).mono ?_; rintro e wx8 ⟨v8, rfl, C8, hb8⟩
            obtain ⟨ra8, rb8, rc8, rd8, re8, rf8, rg8, rfl⟩ := C8.shape6
            have f8 : Fit 729 (evalP x y z Xp) := fit_evP fX e0 e1 e2
            replace VX := VX.next hb8
            replace V0 := V0.next hb8
            replace V1 := V1.next hb8
            replace V2 := V2.next hb8
            replace HB := below_chain HB hb8
            go_wp2_with fail
            refine hK.out _ _ (hKp _ _ hHeld hb8) (fun hHeld => ?_)
            clear hK K hb8
            try simp only [Act.put, List.setIfInBounds_toArray, List.set_cons_zero, List.set_cons_succ]
            refine wpAnyH_ready (rs := [21]) (by kernel_rfl) (by simp) (AllReadyH.cons rfl (fun K hK => ?_) AllReadyH.nil)
            go_simp
            go_at_call 37
            refine (rEvalP_any Xp _ _ _ _ _ _ _ _ _ _ _ _ _ _ _ _ _ _ _ _ _ _ _ _ _ _ VX V0 V1 V2 2 2 fX e0 e1 e2 (by decide)).mono ?_; rintro e wx9 ⟨v9, rfl, C9, hb9⟩
            obtain ⟨ra9, rb9, rc9, rd9, re9, rf9, rg9, rfl⟩ := C9.shape6
            have f9 : Fit 729 (evalP x y z Xp) := fit_evP fX e0 e1 e2
            replace C8 := C8.next hb9
            replace HB := below_chain HB hb9
            go_wp2_with fail
            refine hK.out _ _ (hKp _ _ hHeld hb9) (fun hHeld => ?_)
            clear hK K hb9
            try simp only [Act.put, List.setIfInBounds_toArray, List.set_cons_zero, List.set_cons_succ]
            refine wpAnyH_ready (rs := [22]) (by kernel_rfl) (by simp) (AllReadyH.cons rfl (fun K hK => ?_) AllReadyH.nil)
            go_simp
            go_at_call 23
            refine (rSameE (evalP x y z Xp) (evalP x y z Xp) (rfl) _ _ _ C8 C9).mono ?_; rintro e wx10 ⟨rfl, hb10⟩
            replace HB := below_chain HB hb10
            go_wp2_with fail
            refine hK.out _ _ (hKp _ _ hHeld hb10) (fun hHeld => ?_)
            clear hK K hb10
            try simp only [Act.put, List.setIfInBounds_toArray, List.set_cons_zero, List.set_cons_succ]
            refine held_take (i := 23) (d := 59) (v := ?_) rfl rfl (by kernel_rfl) (by kernel_rfl) (by kernel_rfl) (fun _ _ _ h => h) (by rfl) ?_ hHeld ?_
            rotate_left
            · intro w hSw; obtain ⟨⟨c1', c2', c3'⟩, q0', q1', q2', q3', q4', q5', q6', q7', q8'⟩ := hSw; go_simp; with_reducible rfl
            try simp only [Act.put, List.setIfInBounds_toArray, List.set_cons_zero, List.set_cons_succ]
            refine held_take (i := 24) (d := 8) (v := ?_) rfl rfl (by kernel_rfl) (by kernel_rfl) (by kernel_rfl) (fun _ _ _ h => h) (by rfl) ?_ hHeld ?_
            rotate_left
            · intro w hSw; obtain ⟨⟨c1', c2', c3'⟩, q0', q1', q2', q3', q4', q5', q6', q7', q8'⟩ := hSw; go_simp; with_reducible rfl
            try simp only [Act.put, List.setIfInBounds_toArray, List.set_cons_zero, List.set_cons_succ]
            refine wpAnyH_done (by kernel_rfl) ?_ _
            go_wp2_with fail
            go_ret
            exact ⟨rfl, HB⟩

end Go.Proofs.YtgohfieleckmgaaGreatDoor
