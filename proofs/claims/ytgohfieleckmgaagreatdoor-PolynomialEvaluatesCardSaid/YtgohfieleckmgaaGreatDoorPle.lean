/-
  The walk of PolynomialEvaluates. No condition but the table of powers of ten.
-/
import Derived.Test.YtgohfieleckmgaaGreatDoorPdg
namespace Go.Proofs.YtgohfieleckmgaaGreatDoor
open Go.RowKit
set_option linter.unusedSimpArgs false
set_option linter.unusedVariables false

section
variable {P : Program} {md : Region.Mode} {ops : Array Oper} {Q : Exit → Act → World → Prop} {S : World → Prop} {late : List Nat}
/-- One of three may come up. -/
theorem wpAnyD_three {i j k : Nat} {o o' o'' : Oper} {fuel : Nat} {listed : Array Bool} {a : Act} {w : World} (hr : Region.ready md ops listed = [i, j, k]) (ho : ops[i]? = some o) (ho' : ops[j]? = some o') (ho'' : ops[k]? = some o'')
    (h : ∀ K' : Act → World → Prop, (∀ a' w', ((i ∉ late → S w') ∧ wpAnyD P md ops Q S late fuel (listed.setIfInBounds i true) a' w') → K' a' w') → if Region.wanted o (yielded ops a.tmps) = true then Oper.wp P o a w K' Q else K' (a.put o.dst undef) w)
    (h' : ∀ K' : Act → World → Prop, (∀ a' w', ((j ∉ late → S w') ∧ wpAnyD P md ops Q S late fuel (listed.setIfInBounds j true) a' w') → K' a' w') → if Region.wanted o' (yielded ops a.tmps) = true then Oper.wp P o' a w K' Q else K' (a.put o'.dst undef) w)
    (h'' : ∀ K' : Act → World → Prop, (∀ a' w', ((k ∉ late → S w') ∧ wpAnyD P md ops Q S late fuel (listed.setIfInBounds k true) a' w') → K' a' w') → if Region.wanted o'' (yielded ops a.tmps) = true then Oper.wp P o'' a w K' Q else K' (a.put o''.dst undef) w) :
    wpAnyD P md ops Q S late (fuel + 1) listed a w := by
  refine ⟨fun h0 => (by rw [hr] at h0; cases h0), fun l hk => ?_⟩
  rw [hr] at hk
  simp only [List.mem_cons, List.not_mem_nil, or_false] at hk
  rcases hk with rfl | rfl | rfl
  · have := h _ (fun _ _ h => h)
    unfold wpOp
    rw [ho]
    show if Region.wanted o (yielded ops a.tmps) = true then _ else _
    split
    · rename_i hw; rw [if_pos hw] at this; exact .inl this
    · rename_i hw; rw [if_neg hw] at this; exact this
  · have := h' _ (fun _ _ h => h)
    unfold wpOp
    rw [ho']
    show if Region.wanted o' (yielded ops a.tmps) = true then _ else _
    split
    · rename_i hw; rw [if_pos hw] at this; exact .inl this
    · rename_i hw; rw [if_neg hw] at this; exact this
  · have := h'' _ (fun _ _ h => h)
    unfold wpOp
    rw [ho'']
    show if Region.wanted o'' (yielded ops a.tmps) = true then _ else _
    split
    · rename_i hw; rw [if_pos hw] at this; exact .inl this
    · rename_i hw; rw [if_neg hw] at this; exact this
end
/-- Two numbers lie in variables of their own. -/
def EvCut (W : World) (q r : Rat) (s14 s15 : Value) (wx : World) : Prop :=
  ∃ G14 G15 s xo xn xc yo yn yc s' xo' xn' xc' yo' yn' yc', s14 = .pointer (some ⟨G14, 0, none⟩) ∧ s15 = .pointer (some ⟨G15, 0, none⟩) ∧ C3 G14 (.bool s) (.slice xo xn xc) (.slice yo yn yc) wx ∧ RatC wx (.agg #[.bool s, .slice xo xn xc, .slice yo yn yc]) q ∧
    C3 G15 (.bool s') (.slice xo' xn' xc') (.slice yo' yn' yc') wx ∧ RatC wx (.agg #[.bool s', .slice xo' xn' xc', .slice yo' yn' yc']) r ∧ Below W.heap.size W wx
/-- The box and both variables. -/
def EvS (G : Nat) (s0 : Bool) (po0 : Option Addr) (pn0 pc0 : Nat) (qo0 : Option Addr) (qn0 qc0 : Nat) (s1 : Bool) (po1 : Option Addr) (pn1 pc1 : Nat) (qo1 : Option Addr) (qn1 qc1 : Nat) (s2 : Bool) (po2 : Option Addr) (pn2 pc2 : Nat) (qo2 : Option Addr) (qn2 qc2 : Nat) (G14 : Nat) (x y z : Value) (G15 : Nat) (x' y' z' : Value) (w : World) : Prop := At9 G s0 po0 pn0 pc0 qo0 qn0 qc0 s1 po1 pn1 pc1 qo1 qn1 qc1 s2 po2 pn2 pc2 qo2 qn2 qc2 w ∧ C3 G14 x y z w ∧ C3 G15 x' y' z' w
theorem EvS.next {G : Nat} {s0 : Bool} {po0 : Option Addr} {pn0 pc0 : Nat} {qo0 : Option Addr} {qn0 qc0 : Nat} {s1 : Bool} {po1 : Option Addr} {pn1 pc1 : Nat} {qo1 : Option Addr} {qn1 qc1 : Nat} {s2 : Bool} {po2 : Option Addr} {pn2 pc2 : Nat} {qo2 : Option Addr} {qn2 qc2 : Nat} {G14 : Nat} {x y z : Value} {G15 : Nat} {x' y' z' : Value} {w w' : World} (h : EvS G s0 po0 pn0 pc0 qo0 qn0 qc0 s1 po1 pn1 pc1 qo1 qn1 qc1 s2 po2 pn2 pc2 qo2 qn2 qc2 G14 x y z G15 x' y' z' w) (hb : Below w.heap.size w w') : EvS G s0 po0 pn0 pc0 qo0 qn0 qc0 s1 po1 pn1 pc1 qo1 qn1 qc1 s2 po2 pn2 pc2 qo2 qn2 qc2 G14 x y z G15 x' y' z' w' :=
  ⟨At9.next h.1 hb, C3.next h.2.1 hb, C3.next h.2.2 hb⟩

set_option maxHeartbeats 8000000 in
set_option maxRecDepth 100000 in
theorem walkEvals (w : World) (hp : Pow w) (l0 : List Int) (a0 : Option Addr) (m0 k0 : Nat) (h0 : Sl w a0 m0 k0 (l0.map (.int .i64))) (hz0 : a0 = none → k0 = 0) (hl0 : ∀ z ∈ l0, -9223372036854775808 ≤ z ∧ z ≤ 9223372036854775807) (l1 : List Int) (a1 : Option Addr) (m1 k1 : Nat) (h1 : Sl w a1 m1 k1 (l1.map (.int .i64))) (hz1 : a1 = none → k1 = 0) (hl1 : ∀ z ∈ l1, -9223372036854775808 ≤ z ∧ z ≤ 9223372036854775807) (x : Int) (bdx : -9223372036854775808 ≤ x ∧ x ≤ 9223372036854775807) (y : Int) (bdy : -9223372036854775808 ≤ y ∧ y ≤ 9223372036854775807) (z : Int) (bdz : -9223372036854775808 ≤ z ∧ z ≤ 9223372036854775807) :
    Calls Tryz.prog 8 #[.slice a0 m0 k0, .slice a1 m1 k1, .int .i64 x, .int .i64 y, .int .i64 z] w fun e w' => e = .returned (.bool true) ∧ Below w.heap.size w w' := by
  have HP := hp
  have HB := Below.refl w.heap.size w
  go_enter Tryz.func8, Tryz.ntmps8
  go_wp2_with fail
  refine (poly_any l0 hl0 a0 m0 k0 _ h0).mono ?_; intro e wx1 hx1; obtain ⟨o1, n1, c1, rfl, N1, hb1⟩ := hx1.pn
  have f1 : FitP 9 (madeP l0) := fit_madeP l0
  replace h1 := h1.next hb1
  replace HP := HP.next hb1
  replace HB := below_chain HB hb1
  clear hb1
  go_wp2_with fail
  refine (poly_any l1 hl1 a1 m1 k1 _ h1).mono ?_; intro e wx2 hx2; obtain ⟨o2, n2, c2, rfl, N2, hb2⟩ := hx2.pn
  have f2 : FitP 9 (madeP l1) := fit_madeP l1
  replace h1 := h1.next hb2
  replace HP := HP.next hb2
  replace N1 := N1.next hb2
  replace HB := below_chain HB hb2
  clear hb2
  go_wp2_with fail
  refine (number_any x bdx.1 bdx.2 _).mono ?_; rintro e wx3 ⟨v3, rfl, C3, hb3⟩
  obtain ⟨ra3, rb3, rc3, rd3, re3, rf3, rg3, rfl⟩ := C3.shape6
  have f3 : Fit 1 (numQ x) := fit_num x
  replace h1 := h1.next hb3
  replace HP := HP.next hb3
  replace N1 := N1.next hb3
  replace N2 := N2.next hb3
  replace HB := below_chain HB hb3
  clear hb3
  go_wp2_with fail
  refine (number_any y bdy.1 bdy.2 _).mono ?_; rintro e wx4 ⟨v4, rfl, C4, hb4⟩
  obtain ⟨ra4, rb4, rc4, rd4, re4, rf4, rg4, rfl⟩ := C4.shape6
  have f4 : Fit 1 (numQ y) := fit_num y
  replace h1 := h1.next hb4
  replace HP := HP.next hb4
  replace N1 := N1.next hb4
  replace N2 := N2.next hb4
  replace C3 := C3.next hb4
  replace HB := below_chain HB hb4
  clear hb4
  go_wp2_with fail
  refine (number_any z bdz.1 bdz.2 _).mono ?_; rintro e wx5 ⟨v5, rfl, C5, hb5⟩
  obtain ⟨ra5, rb5, rc5, rd5, re5, rf5, rg5, rfl⟩ := C5.shape6
  have f5 : Fit 1 (numQ z) := fit_num z
  replace h1 := h1.next hb5
  replace HP := HP.next hb5
  replace N1 := N1.next hb5
  replace N2 := N2.next hb5
  replace C3 := C3.next hb5
  replace C4 := C4.next hb5
  replace HB := below_chain HB hb5
  clear hb5
  go_upto_region 3 with fail
  have hA : At9 wx5.heap.size ra3 rb3 rc3 rd3 re3 rf3 rg3 ra4 rb4 rc4 rd4 re4 rf4 rg4 ra5 rb5 rc5 rd5 re5 rf5 rg5 (wx5.alloc (.cells #[.bool ra3, .slice rb3 rc3 rd3, .slice re3 rf3 rg3, .bool ra4, .slice rb4 rc4 rd4, .slice re4 rf4 rg4, .bool ra5, .slice rb5 rc5 rd5, .slice re5 rf5 rg5] 45)) := by
    unfold At9
    simp [go_sem]
  have hb6 : Below wx5.heap.size wx5 (wx5.alloc (.cells #[.bool ra3, .slice rb3 rc3 rd3, .slice re3 rf3 rg3, .bool ra4, .slice rb4 rc4 rd4, .slice re4 rf4 rg4, .bool ra5, .slice rb5 rc5 rd5, .slice re5 rf5 rg5] 45)) := below_alloc _
  replace N1 := N1.next hb6
  replace N2 := N2.next hb6
  replace C3 := C3.next hb6
  replace C4 := C4.next hb6
  replace C5 := C5.next hb6
  replace HP := HP.next hb6
  replace HB := below_chain HB hb6
  obtain ⟨G13, hG13⟩ : ∃ G, wx5.heap.size = G := ⟨_, rfl⟩
  rw [hG13] at hA
  (try rw [hG13])
  clear hG13 hb6
  generalize wx5.alloc (.cells #[.bool ra3, .slice rb3 rc3 rd3, .slice re3 rf3 rg3, .bool ra4, .slice rb4 rc4 rd4, .slice re4 rf4 rg4, .bool ra5, .slice rb5 rc5 rd5, .slice re5 rf5 rg5] 45) = W5 at *
  have hA0 := hid hA
  have hdd := (Below.refl W5.heap.size W5).drew
  have HBX := hdd
  have hS := hA.next hdd
  go_cut [14, 15] (fun s14 s15 wx => EvCut W5 (evalP (numQ x) (numQ y) (numQ z) (madeP l0)) (evalP (numQ x) (numQ y) (numQ z) (madeP l1)) s14 s15 wx)
  case first =>
    refine wp_region_D (fun w' => At9 G13 ra3 rb3 rc3 rd3 re3 rf3 rg3 ra4 rb4 rc4 rd4 re4 rf4 rg4 ra5 rb5 rc5 rd5 re5 rf5 rg5 w') [8, 9] (by kernel_rfl) ?_
    obtain ⟨wd, hwd⟩ : ∃ W, W5.drew = W := ⟨_, rfl⟩
    rw [hwd] at hS HBX ⊢
    clear hwd hdd
    refine wpAnyD_take (i := 0) (v := ?_) rfl (by kernel_rfl) (by kernel_rfl) (by kernel_rfl) (by kernel_rfl) (fun _ _ _ h => h) (Or.inl ⟨by rfl, ?_⟩) hS ?_
    rotate_left
    · intro w _; first | (go_simp; done) | (go_simp; with_reducible rfl)
    refine wpAnyD_take (i := 1) (v := ?_) rfl (by kernel_rfl) (by kernel_rfl) (by kernel_rfl) (by kernel_rfl) (fun _ _ _ h => h) (Or.inl ⟨by rfl, ?_⟩) hS ?_
    rotate_left
    · intro w hw; obtain ⟨q0', q1', q2', q3', q4', q5', q6', q7', q8'⟩ := hw; first | (go_simp; done) | (go_simp; with_reducible rfl)
    refine wpAnyD_take (i := 3) (v := ?_) rfl (by kernel_rfl) (by kernel_rfl) (by kernel_rfl) (by kernel_rfl) (fun _ _ _ h => h) (Or.inl ⟨by rfl, ?_⟩) hS ?_
    rotate_left
    · intro w _; first | (go_simp; done) | (go_simp; with_reducible rfl)
    refine wpAnyD_take (i := 4) (v := ?_) rfl (by kernel_rfl) (by kernel_rfl) (by kernel_rfl) (by kernel_rfl) (fun _ _ _ h => h) (Or.inl ⟨by rfl, ?_⟩) hS ?_
    rotate_left
    · intro w hw; obtain ⟨q0', q1', q2', q3', q4', q5', q6', q7', q8'⟩ := hw; first | (go_simp; done) | (go_simp; with_reducible rfl)
    refine wpAnyD_three (i := 2) (j := 6) (k := 7) (by kernel_rfl) rfl rfl rfl (fun KK hKK => ?_) (fun KK hKK => ?_) (fun KK hKK => ?_)
    · skip
      go_simp
      go_at_call 36
      refine (pEvalP_any (madeP l0) _ _ _ _ _ _ _ _ _ _ _ _ _ _ _ _ _ _ _ _ _ _ _ _ _ _ ((PN.next N1 HBX).V f1 (by decide)) ((RatC.next C3 HBX).toV f3 (by decide)) ((RatC.next C4 HBX).toV f4 (by decide)) ((RatC.next C5 HBX).toV f5 (by decide)) 9 1 f1 f3 f4 f5 (by decide)).mono ?_; rintro e wq1 ⟨v1q, rfl, CV0, hq1⟩
      obtain ⟨ka0, kb0, kc0, kd0, ke0, kf0, kg0, rfl⟩ := CV0.shape6
      replace hS := hS.next hq1
      replace HBX := below_chain HBX hq1
      refine hKK _ _ ⟨fun _ => hS, ?_⟩; clear hKK KK hq1
      refine wpAnyD_three (i := 5) (j := 6) (k := 7) (by kernel_rfl) rfl rfl rfl (fun KK hKK => ?_) (fun KK hKK => ?_) (fun KK hKK => ?_)
      · skip
        go_simp
        go_at_call 36
        refine (pEvalP_any (madeP l1) _ _ _ _ _ _ _ _ _ _ _ _ _ _ _ _ _ _ _ _ _ _ _ _ _ _ ((PN.next N2 HBX).V f2 (by decide)) ((RatC.next C3 HBX).toV f3 (by decide)) ((RatC.next C4 HBX).toV f4 (by decide)) ((RatC.next C5 HBX).toV f5 (by decide)) 9 1 f2 f3 f4 f5 (by decide)).mono ?_; rintro e wq2 ⟨v2q, rfl, CV1, hq2⟩
        obtain ⟨ka1, kb1, kc1, kd1, ke1, kf1, kg1, rfl⟩ := CV1.shape6
        replace hS := hS.next hq2
        replace HBX := below_chain HBX hq2
        replace CV0 := CV0.next hq2
        refine hKK _ _ ⟨fun _ => hS, ?_⟩; clear hKK KK hq2
        refine wpAnyD_two (i := 6) (j := 7) (by kernel_rfl) rfl rfl (fun KK hKK => ?_) (fun KK hKK => ?_)
        · skip
          have B14 := Bk.start HBX rfl (.bool false) (.slice none 0 0) (.slice none 0 0) 25
          replace hS := hS.next (below_alloc (.cells #[.bool false, .slice none 0 0, .slice none 0 0] 25))
          replace CV0 := CV0.next (below_alloc (.cells #[.bool false, .slice none 0 0, .slice none 0 0] 25))
          replace CV1 := CV1.next (below_alloc (.cells #[.bool false, .slice none 0 0, .slice none 0 0] 25))
          replace HBX := below_chain HBX (below_alloc (.cells #[.bool false, .slice none 0 0, .slice none 0 0] 25))
          go_simp
          refine hKK _ _ ⟨fun _ => hS, ?_⟩; clear hKK KK
          obtain ⟨G14, hG3⟩ : ∃ G, wq2.heap.size = G := ⟨_, rfl⟩
          rw [hG3] at B14 ⊢
          clear hG3
          generalize wq2.alloc (.cells #[.bool false, .slice none 0 0, .slice none 0 0] 25) = wz3 at *
          refine wpAnyD_one (i := 7) (by kernel_rfl) rfl (fun KK hKK => ?_)
          have B15 := Bk.start HBX rfl (.bool false) (.slice none 0 0) (.slice none 0 0) 25
          have hne := Nat.ne_of_lt B14.lt
          replace hS := hS.next (below_alloc (.cells #[.bool false, .slice none 0 0, .slice none 0 0] 25))
          replace CV0 := CV0.next (below_alloc (.cells #[.bool false, .slice none 0 0, .slice none 0 0] 25))
          replace CV1 := CV1.next (below_alloc (.cells #[.bool false, .slice none 0 0, .slice none 0 0] 25))
          replace B14 := B14.next (below_alloc (.cells #[.bool false, .slice none 0 0, .slice none 0 0] 25))
          replace HBX := below_chain HBX (below_alloc (.cells #[.bool false, .slice none 0 0, .slice none 0 0] 25))
          go_simp
          refine hKK _ _ ⟨fun _ => hS, ?_⟩; clear hKK KK
          obtain ⟨G15, hG4⟩ : ∃ G, wz3.heap.size = G := ⟨_, rfl⟩
          rw [hG4] at B15 hne ⊢
          clear hG4
          generalize wz3.alloc (.cells #[.bool false, .slice none 0 0, .slice none 0 0] 25) = wz4 at *
          refine wpAnyD_one (i := 8) (by kernel_rfl) rfl (fun KK hKK => ?_)
          obtain ⟨bk0, bk1, bk2⟩ := B14.c3
          have bf0 := B14.free 0
          have bf1 := B14.free 1
          have bf2 := B14.free 2
          go_simp
          refine hKK _ _ ⟨fun hn => absurd (by simp) hn, ?_⟩; clear hKK KK
          have P14 := B14.put (.bool ka0) (.slice kb0 kc0 kd0) (.slice ke0 kf0 kg0)
          have P15 := B15.other hne B14.ge (.bool ka0) (.slice kb0 kc0 kd0) (.slice ke0 kf0 kg0)
          have D0 := RatC.putOther B14.res CV0 (.bool ka0) (.slice kb0 kc0 kd0) (.slice ke0 kf0 kg0)
          have D1 := RatC.putOther B14.res CV1 (.bool ka0) (.slice kb0 kc0 kd0) (.slice ke0 kf0 kg0)
          clear bk0 bk1 bk2 bf0 bf1 bf2
          refine wpAnyD_one (i := 9) (by kernel_rfl) rfl (fun KK hKK => ?_)
          obtain ⟨bk0, bk1, bk2⟩ := P15.c3
          have bf0 := P15.free 0
          have bf1 := P15.free 1
          have bf2 := P15.free 2
          go_simp
          refine hKK _ _ ⟨fun hn => absurd (by simp) hn, ?_⟩; clear hKK KK
          have Q15 := P15.put (.bool ka1) (.slice kb1 kc1 kd1) (.slice ke1 kf1 kg1)
          have Q14 := P14.other hne.symm P15.ge (.bool ka1) (.slice kb1 kc1 kd1) (.slice ke1 kf1 kg1)
          have E0 := RatC.putOther P15.res D0 (.bool ka1) (.slice kb1 kc1 kd1) (.slice ke1 kf1 kg1)
          have E1 := RatC.putOther P15.res D1 (.bool ka1) (.slice kb1 kc1 kd1) (.slice ke1 kf1 kg1)
          clear bk0 bk1 bk2 bf0 bf1 bf2
          refine wpAnyD_done (by kernel_rfl) ?_ _
          go_wp2_with fail
          go_meet
          exact ⟨G14, G15, _, _, _, _, _, _, _, _, _, _, _, _, _, _, rfl, rfl, Q14.c3, E0, Q15.c3, E1, Q15.bel⟩
        · skip
          have B15 := Bk.start HBX rfl (.bool false) (.slice none 0 0) (.slice none 0 0) 25
          replace hS := hS.next (below_alloc (.cells #[.bool false, .slice none 0 0, .slice none 0 0] 25))
          replace CV0 := CV0.next (below_alloc (.cells #[.bool false, .slice none 0 0, .slice none 0 0] 25))
          replace CV1 := CV1.next (below_alloc (.cells #[.bool false, .slice none 0 0, .slice none 0 0] 25))
          replace HBX := below_chain HBX (below_alloc (.cells #[.bool false, .slice none 0 0, .slice none 0 0] 25))
          go_simp
          refine hKK _ _ ⟨fun _ => hS, ?_⟩; clear hKK KK
          obtain ⟨G15, hG5⟩ : ∃ G, wq2.heap.size = G := ⟨_, rfl⟩
          rw [hG5] at B15 ⊢
          clear hG5
          generalize wq2.alloc (.cells #[.bool false, .slice none 0 0, .slice none 0 0] 25) = wz5 at *
          refine wpAnyD_one (i := 6) (by kernel_rfl) rfl (fun KK hKK => ?_)
          have B14 := Bk.start HBX rfl (.bool false) (.slice none 0 0) (.slice none 0 0) 25
          have hne := Nat.ne_of_gt B15.lt
          replace hS := hS.next (below_alloc (.cells #[.bool false, .slice none 0 0, .slice none 0 0] 25))
          replace CV0 := CV0.next (below_alloc (.cells #[.bool false, .slice none 0 0, .slice none 0 0] 25))
          replace CV1 := CV1.next (below_alloc (.cells #[.bool false, .slice none 0 0, .slice none 0 0] 25))
          replace B15 := B15.next (below_alloc (.cells #[.bool false, .slice none 0 0, .slice none 0 0] 25))
          replace HBX := below_chain HBX (below_alloc (.cells #[.bool false, .slice none 0 0, .slice none 0 0] 25))
          go_simp
          refine hKK _ _ ⟨fun _ => hS, ?_⟩; clear hKK KK
          obtain ⟨G14, hG6⟩ : ∃ G, wz5.heap.size = G := ⟨_, rfl⟩
          rw [hG6] at B14 hne ⊢
          clear hG6
          generalize wz5.alloc (.cells #[.bool false, .slice none 0 0, .slice none 0 0] 25) = wz6 at *
          refine wpAnyD_one (i := 8) (by kernel_rfl) rfl (fun KK hKK => ?_)
          obtain ⟨bk0, bk1, bk2⟩ := B14.c3
          have bf0 := B14.free 0
          have bf1 := B14.free 1
          have bf2 := B14.free 2
          go_simp
          refine hKK _ _ ⟨fun hn => absurd (by simp) hn, ?_⟩; clear hKK KK
          have P14 := B14.put (.bool ka0) (.slice kb0 kc0 kd0) (.slice ke0 kf0 kg0)
          have P15 := B15.other hne B14.ge (.bool ka0) (.slice kb0 kc0 kd0) (.slice ke0 kf0 kg0)
          have D0 := RatC.putOther B14.res CV0 (.bool ka0) (.slice kb0 kc0 kd0) (.slice ke0 kf0 kg0)
          have D1 := RatC.putOther B14.res CV1 (.bool ka0) (.slice kb0 kc0 kd0) (.slice ke0 kf0 kg0)
          clear bk0 bk1 bk2 bf0 bf1 bf2
          refine wpAnyD_one (i := 9) (by kernel_rfl) rfl (fun KK hKK => ?_)
          obtain ⟨bk0, bk1, bk2⟩ := P15.c3
          have bf0 := P15.free 0
          have bf1 := P15.free 1
          have bf2 := P15.free 2
          go_simp
          refine hKK _ _ ⟨fun hn => absurd (by simp) hn, ?_⟩; clear hKK KK
          have Q15 := P15.put (.bool ka1) (.slice kb1 kc1 kd1) (.slice ke1 kf1 kg1)
          have Q14 := P14.other hne.symm P15.ge (.bool ka1) (.slice kb1 kc1 kd1) (.slice ke1 kf1 kg1)
          have E0 := RatC.putOther P15.res D0 (.bool ka1) (.slice kb1 kc1 kd1) (.slice ke1 kf1 kg1)
          have E1 := RatC.putOther P15.res D1 (.bool ka1) (.slice kb1 kc1 kd1) (.slice ke1 kf1 kg1)
          clear bk0 bk1 bk2 bf0 bf1 bf2
          refine wpAnyD_done (by kernel_rfl) ?_ _
          go_wp2_with fail
          go_meet
          exact ⟨G14, G15, _, _, _, _, _, _, _, _, _, _, _, _, _, _, rfl, rfl, Q14.c3, E0, Q15.c3, E1, Q15.bel⟩
      · skip
        have B14 := Bk.start HBX rfl (.bool false) (.slice none 0 0) (.slice none 0 0) 25
        replace hS := hS.next (below_alloc (.cells #[.bool false, .slice none 0 0, .slice none 0 0] 25))
        replace CV0 := CV0.next (below_alloc (.cells #[.bool false, .slice none 0 0, .slice none 0 0] 25))
        replace HBX := below_chain HBX (below_alloc (.cells #[.bool false, .slice none 0 0, .slice none 0 0] 25))
        go_simp
        refine hKK _ _ ⟨fun _ => hS, ?_⟩; clear hKK KK
        obtain ⟨G14, hG7⟩ : ∃ G, wq1.heap.size = G := ⟨_, rfl⟩
        rw [hG7] at B14 ⊢
        clear hG7
        generalize wq1.alloc (.cells #[.bool false, .slice none 0 0, .slice none 0 0] 25) = wz7 at *
        refine wpAnyD_two (i := 5) (j := 7) (by kernel_rfl) rfl rfl (fun KK hKK => ?_) (fun KK hKK => ?_)
        · skip
          go_simp
          go_at_call 36
          refine (pEvalP_any (madeP l1) _ _ _ _ _ _ _ _ _ _ _ _ _ _ _ _ _ _ _ _ _ _ _ _ _ _ ((PN.next N2 HBX).V f2 (by decide)) ((RatC.next C3 HBX).toV f3 (by decide)) ((RatC.next C4 HBX).toV f4 (by decide)) ((RatC.next C5 HBX).toV f5 (by decide)) 9 1 f2 f3 f4 f5 (by decide)).mono ?_; rintro e wq8 ⟨v8q, rfl, CV1, hq8⟩
          obtain ⟨ka1, kb1, kc1, kd1, ke1, kf1, kg1, rfl⟩ := CV1.shape6
          replace hS := hS.next hq8
          replace HBX := below_chain HBX hq8
          replace CV0 := CV0.next hq8
          replace B14 := B14.next hq8
          refine hKK _ _ ⟨fun _ => hS, ?_⟩; clear hKK KK hq8
          refine wpAnyD_one (i := 7) (by kernel_rfl) rfl (fun KK hKK => ?_)
          have B15 := Bk.start HBX rfl (.bool false) (.slice none 0 0) (.slice none 0 0) 25
          have hne := Nat.ne_of_lt B14.lt
          replace hS := hS.next (below_alloc (.cells #[.bool false, .slice none 0 0, .slice none 0 0] 25))
          replace CV0 := CV0.next (below_alloc (.cells #[.bool false, .slice none 0 0, .slice none 0 0] 25))
          replace B14 := B14.next (below_alloc (.cells #[.bool false, .slice none 0 0, .slice none 0 0] 25))
          replace CV1 := CV1.next (below_alloc (.cells #[.bool false, .slice none 0 0, .slice none 0 0] 25))
          replace HBX := below_chain HBX (below_alloc (.cells #[.bool false, .slice none 0 0, .slice none 0 0] 25))
          go_simp
          refine hKK _ _ ⟨fun _ => hS, ?_⟩; clear hKK KK
          obtain ⟨G15, hG9⟩ : ∃ G, wq8.heap.size = G := ⟨_, rfl⟩
          rw [hG9] at B15 hne ⊢
          clear hG9
          generalize wq8.alloc (.cells #[.bool false, .slice none 0 0, .slice none 0 0] 25) = wz9 at *
          refine wpAnyD_one (i := 8) (by kernel_rfl) rfl (fun KK hKK => ?_)
          obtain ⟨bk0, bk1, bk2⟩ := B14.c3
          have bf0 := B14.free 0
          have bf1 := B14.free 1
          have bf2 := B14.free 2
          go_simp
          refine hKK _ _ ⟨fun hn => absurd (by simp) hn, ?_⟩; clear hKK KK
          have P14 := B14.put (.bool ka0) (.slice kb0 kc0 kd0) (.slice ke0 kf0 kg0)
          have P15 := B15.other hne B14.ge (.bool ka0) (.slice kb0 kc0 kd0) (.slice ke0 kf0 kg0)
          have D0 := RatC.putOther B14.res CV0 (.bool ka0) (.slice kb0 kc0 kd0) (.slice ke0 kf0 kg0)
          have D1 := RatC.putOther B14.res CV1 (.bool ka0) (.slice kb0 kc0 kd0) (.slice ke0 kf0 kg0)
          clear bk0 bk1 bk2 bf0 bf1 bf2
          refine wpAnyD_one (i := 9) (by kernel_rfl) rfl (fun KK hKK => ?_)
          obtain ⟨bk0, bk1, bk2⟩ := P15.c3
          have bf0 := P15.free 0
          have bf1 := P15.free 1
          have bf2 := P15.free 2
          go_simp
          refine hKK _ _ ⟨fun hn => absurd (by simp) hn, ?_⟩; clear hKK KK
          have Q15 := P15.put (.bool ka1) (.slice kb1 kc1 kd1) (.slice ke1 kf1 kg1)
          have Q14 := P14.other hne.symm P15.ge (.bool ka1) (.slice kb1 kc1 kd1) (.slice ke1 kf1 kg1)
          have E0 := RatC.putOther P15.res D0 (.bool ka1) (.slice kb1 kc1 kd1) (.slice ke1 kf1 kg1)
          have E1 := RatC.putOther P15.res D1 (.bool ka1) (.slice kb1 kc1 kd1) (.slice ke1 kf1 kg1)
          clear bk0 bk1 bk2 bf0 bf1 bf2
          refine wpAnyD_done (by kernel_rfl) ?_ _
          go_wp2_with fail
          go_meet
          exact ⟨G14, G15, _, _, _, _, _, _, _, _, _, _, _, _, _, _, rfl, rfl, Q14.c3, E0, Q15.c3, E1, Q15.bel⟩
        · skip
          have B15 := Bk.start HBX rfl (.bool false) (.slice none 0 0) (.slice none 0 0) 25
          have hne := Nat.ne_of_lt B14.lt
          replace hS := hS.next (below_alloc (.cells #[.bool false, .slice none 0 0, .slice none 0 0] 25))
          replace CV0 := CV0.next (below_alloc (.cells #[.bool false, .slice none 0 0, .slice none 0 0] 25))
          replace B14 := B14.next (below_alloc (.cells #[.bool false, .slice none 0 0, .slice none 0 0] 25))
          replace HBX := below_chain HBX (below_alloc (.cells #[.bool false, .slice none 0 0, .slice none 0 0] 25))
          go_simp
          refine hKK _ _ ⟨fun _ => hS, ?_⟩; clear hKK KK
          obtain ⟨G15, hG10⟩ : ∃ G, wz7.heap.size = G := ⟨_, rfl⟩
          rw [hG10] at B15 hne ⊢
          clear hG10
          generalize wz7.alloc (.cells #[.bool false, .slice none 0 0, .slice none 0 0] 25) = wz10 at *
          refine wpAnyD_one (i := 5) (by kernel_rfl) rfl (fun KK hKK => ?_)
          go_simp
          go_at_call 36
          refine (pEvalP_any (madeP l1) _ _ _ _ _ _ _ _ _ _ _ _ _ _ _ _ _ _ _ _ _ _ _ _ _ _ ((PN.next N2 HBX).V f2 (by decide)) ((RatC.next C3 HBX).toV f3 (by decide)) ((RatC.next C4 HBX).toV f4 (by decide)) ((RatC.next C5 HBX).toV f5 (by decide)) 9 1 f2 f3 f4 f5 (by decide)).mono ?_; rintro e wq11 ⟨v11q, rfl, CV1, hq11⟩
          obtain ⟨ka1, kb1, kc1, kd1, ke1, kf1, kg1, rfl⟩ := CV1.shape6
          replace hS := hS.next hq11
          replace HBX := below_chain HBX hq11
          replace CV0 := CV0.next hq11
          replace B14 := B14.next hq11
          replace B15 := B15.next hq11
          refine hKK _ _ ⟨fun _ => hS, ?_⟩; clear hKK KK hq11
          refine wpAnyD_one (i := 8) (by kernel_rfl) rfl (fun KK hKK => ?_)
          obtain ⟨bk0, bk1, bk2⟩ := B14.c3
          have bf0 := B14.free 0
          have bf1 := B14.free 1
          have bf2 := B14.free 2
          go_simp
          refine hKK _ _ ⟨fun hn => absurd (by simp) hn, ?_⟩; clear hKK KK
          have P14 := B14.put (.bool ka0) (.slice kb0 kc0 kd0) (.slice ke0 kf0 kg0)
          have P15 := B15.other hne B14.ge (.bool ka0) (.slice kb0 kc0 kd0) (.slice ke0 kf0 kg0)
          have D0 := RatC.putOther B14.res CV0 (.bool ka0) (.slice kb0 kc0 kd0) (.slice ke0 kf0 kg0)
          have D1 := RatC.putOther B14.res CV1 (.bool ka0) (.slice kb0 kc0 kd0) (.slice ke0 kf0 kg0)
          clear bk0 bk1 bk2 bf0 bf1 bf2
          refine wpAnyD_one (i := 9) (by kernel_rfl) rfl (fun KK hKK => ?_)
          obtain ⟨bk0, bk1, bk2⟩ := P15.c3
          have bf0 := P15.free 0
          have bf1 := P15.free 1
          have bf2 := P15.free 2
          go_simp
          refine hKK _ _ ⟨fun hn => absurd (by simp) hn, ?_⟩; clear hKK KK
          have Q15 := P15.put (.bool ka1) (.slice kb1 kc1 kd1) (.slice ke1 kf1 kg1)
          have Q14 := P14.other hne.symm P15.ge (.bool ka1) (.slice kb1 kc1 kd1) (.slice ke1 kf1 kg1)
          have E0 := RatC.putOther P15.res D0 (.bool ka1) (.slice kb1 kc1 kd1) (.slice ke1 kf1 kg1)
          have E1 := RatC.putOther P15.res D1 (.bool ka1) (.slice kb1 kc1 kd1) (.slice ke1 kf1 kg1)
          clear bk0 bk1 bk2 bf0 bf1 bf2
          refine wpAnyD_done (by kernel_rfl) ?_ _
          go_wp2_with fail
          go_meet
          exact ⟨G14, G15, _, _, _, _, _, _, _, _, _, _, _, _, _, _, rfl, rfl, Q14.c3, E0, Q15.c3, E1, Q15.bel⟩
      · skip
        have B15 := Bk.start HBX rfl (.bool false) (.slice none 0 0) (.slice none 0 0) 25
        replace hS := hS.next (below_alloc (.cells #[.bool false, .slice none 0 0, .slice none 0 0] 25))
        replace CV0 := CV0.next (below_alloc (.cells #[.bool false, .slice none 0 0, .slice none 0 0] 25))
        replace HBX := below_chain HBX (below_alloc (.cells #[.bool false, .slice none 0 0, .slice none 0 0] 25))
        go_simp
        refine hKK _ _ ⟨fun _ => hS, ?_⟩; clear hKK KK
        obtain ⟨G15, hG12⟩ : ∃ G, wq1.heap.size = G := ⟨_, rfl⟩
        rw [hG12] at B15 ⊢
        clear hG12
        generalize wq1.alloc (.cells #[.bool false, .slice none 0 0, .slice none 0 0] 25) = wz12 at *
        refine wpAnyD_two (i := 5) (j := 6) (by kernel_rfl) rfl rfl (fun KK hKK => ?_) (fun KK hKK => ?_)
        · skip
          go_simp
          go_at_call 36
          refine (pEvalP_any (madeP l1) _ _ _ _ _ _ _ _ _ _ _ _ _ _ _ _ _ _ _ _ _ _ _ _ _ _ ((PN.next N2 HBX).V f2 (by decide)) ((RatC.next C3 HBX).toV f3 (by decide)) ((RatC.next C4 HBX).toV f4 (by decide)) ((RatC.next C5 HBX).toV f5 (by decide)) 9 1 f2 f3 f4 f5 (by decide)).mono ?_; rintro e wq13 ⟨v13q, rfl, CV1, hq13⟩
          obtain ⟨ka1, kb1, kc1, kd1, ke1, kf1, kg1, rfl⟩ := CV1.shape6
          replace hS := hS.next hq13
          replace HBX := below_chain HBX hq13
          replace CV0 := CV0.next hq13
          replace B15 := B15.next hq13
          refine hKK _ _ ⟨fun _ => hS, ?_⟩; clear hKK KK hq13
          refine wpAnyD_one (i := 6) (by kernel_rfl) rfl (fun KK hKK => ?_)
          have B14 := Bk.start HBX rfl (.bool false) (.slice none 0 0) (.slice none 0 0) 25
          have hne := Nat.ne_of_gt B15.lt
          replace hS := hS.next (below_alloc (.cells #[.bool false, .slice none 0 0, .slice none 0 0] 25))
          replace CV0 := CV0.next (below_alloc (.cells #[.bool false, .slice none 0 0, .slice none 0 0] 25))
          replace B15 := B15.next (below_alloc (.cells #[.bool false, .slice none 0 0, .slice none 0 0] 25))
          replace CV1 := CV1.next (below_alloc (.cells #[.bool false, .slice none 0 0, .slice none 0 0] 25))
          replace HBX := below_chain HBX (below_alloc (.cells #[.bool false, .slice none 0 0, .slice none 0 0] 25))
          go_simp
          refine hKK _ _ ⟨fun _ => hS, ?_⟩; clear hKK KK
          obtain ⟨G14, hG14⟩ : ∃ G, wq13.heap.size = G := ⟨_, rfl⟩
          rw [hG14] at B14 hne ⊢
          clear hG14
          generalize wq13.alloc (.cells #[.bool false, .slice none 0 0, .slice none 0 0] 25) = wz14 at *
          refine wpAnyD_one (i := 8) (by kernel_rfl) rfl (fun KK hKK => ?_)
          obtain ⟨bk0, bk1, bk2⟩ := B14.c3
          have bf0 := B14.free 0
          have bf1 := B14.free 1
          have bf2 := B14.free 2
          go_simp
          refine hKK _ _ ⟨fun hn => absurd (by simp) hn, ?_⟩; clear hKK KK
          have P14 := B14.put (.bool ka0) (.slice kb0 kc0 kd0) (.slice ke0 kf0 kg0)
          have P15 := B15.other hne B14.ge (.bool ka0) (.slice kb0 kc0 kd0) (.slice ke0 kf0 kg0)
          have D0 := RatC.putOther B14.res CV0 (.bool ka0) (.slice kb0 kc0 kd0) (.slice ke0 kf0 kg0)
          have D1 := RatC.putOther B14.res CV1 (.bool ka0) (.slice kb0 kc0 kd0) (.slice ke0 kf0 kg0)
          clear bk0 bk1 bk2 bf0 bf1 bf2
          refine wpAnyD_one (i := 9) (by kernel_rfl) rfl (fun KK hKK => ?_)
          obtain ⟨bk0, bk1, bk2⟩ := P15.c3
          have bf0 := P15.free 0
          have bf1 := P15.free 1
          have bf2 := P15.free 2
          go_simp
          refine hKK _ _ ⟨fun hn => absurd (by simp) hn, ?_⟩; clear hKK KK
          have Q15 := P15.put (.bool ka1) (.slice kb1 kc1 kd1) (.slice ke1 kf1 kg1)
          have Q14 := P14.other hne.symm P15.ge (.bool ka1) (.slice kb1 kc1 kd1) (.slice ke1 kf1 kg1)
          have E0 := RatC.putOther P15.res D0 (.bool ka1) (.slice kb1 kc1 kd1) (.slice ke1 kf1 kg1)
          have E1 := RatC.putOther P15.res D1 (.bool ka1) (.slice kb1 kc1 kd1) (.slice ke1 kf1 kg1)
          clear bk0 bk1 bk2 bf0 bf1 bf2
          refine wpAnyD_done (by kernel_rfl) ?_ _
          go_wp2_with fail
          go_meet
          exact ⟨G14, G15, _, _, _, _, _, _, _, _, _, _, _, _, _, _, rfl, rfl, Q14.c3, E0, Q15.c3, E1, Q15.bel⟩
        · skip
          have B14 := Bk.start HBX rfl (.bool false) (.slice none 0 0) (.slice none 0 0) 25
          have hne := Nat.ne_of_gt B15.lt
          replace hS := hS.next (below_alloc (.cells #[.bool false, .slice none 0 0, .slice none 0 0] 25))
          replace CV0 := CV0.next (below_alloc (.cells #[.bool false, .slice none 0 0, .slice none 0 0] 25))
          replace B15 := B15.next (below_alloc (.cells #[.bool false, .slice none 0 0, .slice none 0 0] 25))
          replace HBX := below_chain HBX (below_alloc (.cells #[.bool false, .slice none 0 0, .slice none 0 0] 25))
          go_simp
          refine hKK _ _ ⟨fun _ => hS, ?_⟩; clear hKK KK
          obtain ⟨G14, hG15⟩ : ∃ G, wz12.heap.size = G := ⟨_, rfl⟩
          rw [hG15] at B14 hne ⊢
          clear hG15
          generalize wz12.alloc (.cells #[.bool false, .slice none 0 0, .slice none 0 0] 25) = wz15 at *
          refine wpAnyD_one (i := 5) (by kernel_rfl) rfl (fun KK hKK => ?_)
          go_simp
          go_at_call 36
          refine (pEvalP_any (madeP l1) _ _ _ _ _ _ _ _ _ _ _ _ _ _ _ _ _ _ _ _ _ _ _ _ _ _ ((PN.next N2 HBX).V f2 (by decide)) ((RatC.next C3 HBX).toV f3 (by decide)) ((RatC.next C4 HBX).toV f4 (by decide)) ((RatC.next C5 HBX).toV f5 (by decide)) 9 1 f2 f3 f4 f5 (by decide)).mono ?_; rintro e wq16 ⟨v16q, rfl, CV1, hq16⟩
          obtain ⟨ka1, kb1, kc1, kd1, ke1, kf1, kg1, rfl⟩ := CV1.shape6
          replace hS := hS.next hq16
          replace HBX := below_chain HBX hq16
          replace CV0 := CV0.next hq16
          replace B15 := B15.next hq16
          replace B14 := B14.next hq16
          refine hKK _ _ ⟨fun _ => hS, ?_⟩; clear hKK KK hq16
          refine wpAnyD_one (i := 8) (by kernel_rfl) rfl (fun KK hKK => ?_)
          obtain ⟨bk0, bk1, bk2⟩ := B14.c3
          have bf0 := B14.free 0
          have bf1 := B14.free 1
          have bf2 := B14.free 2
          go_simp
          refine hKK _ _ ⟨fun hn => absurd (by simp) hn, ?_⟩; clear hKK KK
          have P14 := B14.put (.bool ka0) (.slice kb0 kc0 kd0) (.slice ke0 kf0 kg0)
          have P15 := B15.other hne B14.ge (.bool ka0) (.slice kb0 kc0 kd0) (.slice ke0 kf0 kg0)
          have D0 := RatC.putOther B14.res CV0 (.bool ka0) (.slice kb0 kc0 kd0) (.slice ke0 kf0 kg0)
          have D1 := RatC.putOther B14.res CV1 (.bool ka0) (.slice kb0 kc0 kd0) (.slice ke0 kf0 kg0)
          clear bk0 bk1 bk2 bf0 bf1 bf2
          refine wpAnyD_one (i := 9) (by kernel_rfl) rfl (fun KK hKK => ?_)
          obtain ⟨bk0, bk1, bk2⟩ := P15.c3
          have bf0 := P15.free 0
          have bf1 := P15.free 1
          have bf2 := P15.free 2
          go_simp
          refine hKK _ _ ⟨fun hn => absurd (by simp) hn, ?_⟩; clear hKK KK
          have Q15 := P15.put (.bool ka1) (.slice kb1 kc1 kd1) (.slice ke1 kf1 kg1)
          have Q14 := P14.other hne.symm P15.ge (.bool ka1) (.slice kb1 kc1 kd1) (.slice ke1 kf1 kg1)
          have E0 := RatC.putOther P15.res D0 (.bool ka1) (.slice kb1 kc1 kd1) (.slice ke1 kf1 kg1)
          have E1 := RatC.putOther P15.res D1 (.bool ka1) (.slice kb1 kc1 kd1) (.slice ke1 kf1 kg1)
          clear bk0 bk1 bk2 bf0 bf1 bf2
          refine wpAnyD_done (by kernel_rfl) ?_ _
          go_wp2_with fail
          go_meet
          exact ⟨G14, G15, _, _, _, _, _, _, _, _, _, _, _, _, _, _, rfl, rfl, Q14.c3, E0, Q15.c3, E1, Q15.bel⟩
    · skip
      have B14 := Bk.start HBX rfl (.bool false) (.slice none 0 0) (.slice none 0 0) 25
      replace hS := hS.next (below_alloc (.cells #[.bool false, .slice none 0 0, .slice none 0 0] 25))
      replace HBX := below_chain HBX (below_alloc (.cells #[.bool false, .slice none 0 0, .slice none 0 0] 25))
      go_simp
      refine hKK _ _ ⟨fun _ => hS, ?_⟩; clear hKK KK
      obtain ⟨G14, hG17⟩ : ∃ G, wd.heap.size = G := ⟨_, rfl⟩
      rw [hG17] at B14 ⊢
      clear hG17
      generalize wd.alloc (.cells #[.bool false, .slice none 0 0, .slice none 0 0] 25) = wz17 at *
      refine wpAnyD_two (i := 2) (j := 7) (by kernel_rfl) rfl rfl (fun KK hKK => ?_) (fun KK hKK => ?_)
      · skip
        go_simp
        go_at_call 36
        refine (pEvalP_any (madeP l0) _ _ _ _ _ _ _ _ _ _ _ _ _ _ _ _ _ _ _ _ _ _ _ _ _ _ ((PN.next N1 HBX).V f1 (by decide)) ((RatC.next C3 HBX).toV f3 (by decide)) ((RatC.next C4 HBX).toV f4 (by decide)) ((RatC.next C5 HBX).toV f5 (by decide)) 9 1 f1 f3 f4 f5 (by decide)).mono ?_; rintro e wq18 ⟨v18q, rfl, CV0, hq18⟩
        obtain ⟨ka0, kb0, kc0, kd0, ke0, kf0, kg0, rfl⟩ := CV0.shape6
        replace hS := hS.next hq18
        replace HBX := below_chain HBX hq18
        replace B14 := B14.next hq18
        refine hKK _ _ ⟨fun _ => hS, ?_⟩; clear hKK KK hq18
        refine wpAnyD_two (i := 5) (j := 7) (by kernel_rfl) rfl rfl (fun KK hKK => ?_) (fun KK hKK => ?_)
        · skip
          go_simp
          go_at_call 36
          refine (pEvalP_any (madeP l1) _ _ _ _ _ _ _ _ _ _ _ _ _ _ _ _ _ _ _ _ _ _ _ _ _ _ ((PN.next N2 HBX).V f2 (by decide)) ((RatC.next C3 HBX).toV f3 (by decide)) ((RatC.next C4 HBX).toV f4 (by decide)) ((RatC.next C5 HBX).toV f5 (by decide)) 9 1 f2 f3 f4 f5 (by decide)).mono ?_; rintro e wq19 ⟨v19q, rfl, CV1, hq19⟩
          obtain ⟨ka1, kb1, kc1, kd1, ke1, kf1, kg1, rfl⟩ := CV1.shape6
          replace hS := hS.next hq19
          replace HBX := below_chain HBX hq19
          replace B14 := B14.next hq19
          replace CV0 := CV0.next hq19
          refine hKK _ _ ⟨fun _ => hS, ?_⟩; clear hKK KK hq19
          refine wpAnyD_one (i := 7) (by kernel_rfl) rfl (fun KK hKK => ?_)
          have B15 := Bk.start HBX rfl (.bool false) (.slice none 0 0) (.slice none 0 0) 25
          have hne := Nat.ne_of_lt B14.lt
          replace hS := hS.next (below_alloc (.cells #[.bool false, .slice none 0 0, .slice none 0 0] 25))
          replace B14 := B14.next (below_alloc (.cells #[.bool false, .slice none 0 0, .slice none 0 0] 25))
          replace CV0 := CV0.next (below_alloc (.cells #[.bool false, .slice none 0 0, .slice none 0 0] 25))
          replace CV1 := CV1.next (below_alloc (.cells #[.bool false, .slice none 0 0, .slice none 0 0] 25))
          replace HBX := below_chain HBX (below_alloc (.cells #[.bool false, .slice none 0 0, .slice none 0 0] 25))
          go_simp
          refine hKK _ _ ⟨fun _ => hS, ?_⟩; clear hKK KK
          obtain ⟨G15, hG20⟩ : ∃ G, wq19.heap.size = G := ⟨_, rfl⟩
          rw [hG20] at B15 hne ⊢
          clear hG20
          generalize wq19.alloc (.cells #[.bool false, .slice none 0 0, .slice none 0 0] 25) = wz20 at *
          refine wpAnyD_one (i := 8) (by kernel_rfl) rfl (fun KK hKK => ?_)
          obtain ⟨bk0, bk1, bk2⟩ := B14.c3
          have bf0 := B14.free 0
          have bf1 := B14.free 1
          have bf2 := B14.free 2
          go_simp
          refine hKK _ _ ⟨fun hn => absurd (by simp) hn, ?_⟩; clear hKK KK
          have P14 := B14.put (.bool ka0) (.slice kb0 kc0 kd0) (.slice ke0 kf0 kg0)
          have P15 := B15.other hne B14.ge (.bool ka0) (.slice kb0 kc0 kd0) (.slice ke0 kf0 kg0)
          have D0 := RatC.putOther B14.res CV0 (.bool ka0) (.slice kb0 kc0 kd0) (.slice ke0 kf0 kg0)
          have D1 := RatC.putOther B14.res CV1 (.bool ka0) (.slice kb0 kc0 kd0) (.slice ke0 kf0 kg0)
          clear bk0 bk1 bk2 bf0 bf1 bf2
          refine wpAnyD_one (i := 9) (by kernel_rfl) rfl (fun KK hKK => ?_)
          obtain ⟨bk0, bk1, bk2⟩ := P15.c3
          have bf0 := P15.free 0
          have bf1 := P15.free 1
          have bf2 := P15.free 2
          go_simp
          refine hKK _ _ ⟨fun hn => absurd (by simp) hn, ?_⟩; clear hKK KK
          have Q15 := P15.put (.bool ka1) (.slice kb1 kc1 kd1) (.slice ke1 kf1 kg1)
          have Q14 := P14.other hne.symm P15.ge (.bool ka1) (.slice kb1 kc1 kd1) (.slice ke1 kf1 kg1)
          have E0 := RatC.putOther P15.res D0 (.bool ka1) (.slice kb1 kc1 kd1) (.slice ke1 kf1 kg1)
          have E1 := RatC.putOther P15.res D1 (.bool ka1) (.slice kb1 kc1 kd1) (.slice ke1 kf1 kg1)
          clear bk0 bk1 bk2 bf0 bf1 bf2
          refine wpAnyD_done (by kernel_rfl) ?_ _
          go_wp2_with fail
          go_meet
          exact ⟨G14, G15, _, _, _, _, _, _, _, _, _, _, _, _, _, _, rfl, rfl, Q14.c3, E0, Q15.c3, E1, Q15.bel⟩
        · skip
          have B15 := Bk.start HBX rfl (.bool false) (.slice none 0 0) (.slice none 0 0) 25
          have hne := Nat.ne_of_lt B14.lt
          replace hS := hS.next (below_alloc (.cells #[.bool false, .slice none 0 0, .slice none 0 0] 25))
          replace B14 := B14.next (below_alloc (.cells #[.bool false, .slice none 0 0, .slice none 0 0] 25))
          replace CV0 := CV0.next (below_alloc (.cells #[.bool false, .slice none 0 0, .slice none 0 0] 25))
          replace HBX := below_chain HBX (below_alloc (.cells #[.bool false, .slice none 0 0, .slice none 0 0] 25))
          go_simp
          refine hKK _ _ ⟨fun _ => hS, ?_⟩; clear hKK KK
          obtain ⟨G15, hG21⟩ : ∃ G, wq18.heap.size = G := ⟨_, rfl⟩
          rw [hG21] at B15 hne ⊢
          clear hG21
          generalize wq18.alloc (.cells #[.bool false, .slice none 0 0, .slice none 0 0] 25) = wz21 at *
          refine wpAnyD_one (i := 5) (by kernel_rfl) rfl (fun KK hKK => ?_)
          go_simp
          go_at_call 36
          refine (pEvalP_any (madeP l1) _ _ _ _ _ _ _ _ _ _ _ _ _ _ _ _ _ _ _ _ _ _ _ _ _ _ ((PN.next N2 HBX).V f2 (by decide)) ((RatC.next C3 HBX).toV f3 (by decide)) ((RatC.next C4 HBX).toV f4 (by decide)) ((RatC.next C5 HBX).toV f5 (by decide)) 9 1 f2 f3 f4 f5 (by decide)).mono ?_; rintro e wq22 ⟨v22q, rfl, CV1, hq22⟩
          obtain ⟨ka1, kb1, kc1, kd1, ke1, kf1, kg1, rfl⟩ := CV1.shape6
          replace hS := hS.next hq22
          replace HBX := below_chain HBX hq22
          replace B14 := B14.next hq22
          replace CV0 := CV0.next hq22
          replace B15 := B15.next hq22
          refine hKK _ _ ⟨fun _ => hS, ?_⟩; clear hKK KK hq22
          refine wpAnyD_one (i := 8) (by kernel_rfl) rfl (fun KK hKK => ?_)
          obtain ⟨bk0, bk1, bk2⟩ := B14.c3
          have bf0 := B14.free 0
          have bf1 := B14.free 1
          have bf2 := B14.free 2
          go_simp
          refine hKK _ _ ⟨fun hn => absurd (by simp) hn, ?_⟩; clear hKK KK
          have P14 := B14.put (.bool ka0) (.slice kb0 kc0 kd0) (.slice ke0 kf0 kg0)
          have P15 := B15.other hne B14.ge (.bool ka0) (.slice kb0 kc0 kd0) (.slice ke0 kf0 kg0)
          have D0 := RatC.putOther B14.res CV0 (.bool ka0) (.slice kb0 kc0 kd0) (.slice ke0 kf0 kg0)
          have D1 := RatC.putOther B14.res CV1 (.bool ka0) (.slice kb0 kc0 kd0) (.slice ke0 kf0 kg0)
          clear bk0 bk1 bk2 bf0 bf1 bf2
          refine wpAnyD_one (i := 9) (by kernel_rfl) rfl (fun KK hKK => ?_)
          obtain ⟨bk0, bk1, bk2⟩ := P15.c3
          have bf0 := P15.free 0
          have bf1 := P15.free 1
          have bf2 := P15.free 2
          go_simp
          refine hKK _ _ ⟨fun hn => absurd (by simp) hn, ?_⟩; clear hKK KK
          have Q15 := P15.put (.bool ka1) (.slice kb1 kc1 kd1) (.slice ke1 kf1 kg1)
          have Q14 := P14.other hne.symm P15.ge (.bool ka1) (.slice kb1 kc1 kd1) (.slice ke1 kf1 kg1)
          have E0 := RatC.putOther P15.res D0 (.bool ka1) (.slice kb1 kc1 kd1) (.slice ke1 kf1 kg1)
          have E1 := RatC.putOther P15.res D1 (.bool ka1) (.slice kb1 kc1 kd1) (.slice ke1 kf1 kg1)
          clear bk0 bk1 bk2 bf0 bf1 bf2
          refine wpAnyD_done (by kernel_rfl) ?_ _
          go_wp2_with fail
          go_meet
          exact ⟨G14, G15, _, _, _, _, _, _, _, _, _, _, _, _, _, _, rfl, rfl, Q14.c3, E0, Q15.c3, E1, Q15.bel⟩
      · skip
        have B15 := Bk.start HBX rfl (.bool false) (.slice none 0 0) (.slice none 0 0) 25
        have hne := Nat.ne_of_lt B14.lt
        replace hS := hS.next (below_alloc (.cells #[.bool false, .slice none 0 0, .slice none 0 0] 25))
        replace B14 := B14.next (below_alloc (.cells #[.bool false, .slice none 0 0, .slice none 0 0] 25))
        replace HBX := below_chain HBX (below_alloc (.cells #[.bool false, .slice none 0 0, .slice none 0 0] 25))
        go_simp
        refine hKK _ _ ⟨fun _ => hS, ?_⟩; clear hKK KK
        obtain ⟨G15, hG23⟩ : ∃ G, wz17.heap.size = G := ⟨_, rfl⟩
        rw [hG23] at B15 hne ⊢
        clear hG23
        generalize wz17.alloc (.cells #[.bool false, .slice none 0 0, .slice none 0 0] 25) = wz23 at *
        refine wpAnyD_one (i := 2) (by kernel_rfl) rfl (fun KK hKK => ?_)
        go_simp
        go_at_call 36
        refine (pEvalP_any (madeP l0) _ _ _ _ _ _ _ _ _ _ _ _ _ _ _ _ _ _ _ _ _ _ _ _ _ _ ((PN.next N1 HBX).V f1 (by decide)) ((RatC.next C3 HBX).toV f3 (by decide)) ((RatC.next C4 HBX).toV f4 (by decide)) ((RatC.next C5 HBX).toV f5 (by decide)) 9 1 f1 f3 f4 f5 (by decide)).mono ?_; rintro e wq24 ⟨v24q, rfl, CV0, hq24⟩
        obtain ⟨ka0, kb0, kc0, kd0, ke0, kf0, kg0, rfl⟩ := CV0.shape6
        replace hS := hS.next hq24
        replace HBX := below_chain HBX hq24
        replace B14 := B14.next hq24
        replace B15 := B15.next hq24
        refine hKK _ _ ⟨fun _ => hS, ?_⟩; clear hKK KK hq24
        refine wpAnyD_one (i := 5) (by kernel_rfl) rfl (fun KK hKK => ?_)
        go_simp
        go_at_call 36
        refine (pEvalP_any (madeP l1) _ _ _ _ _ _ _ _ _ _ _ _ _ _ _ _ _ _ _ _ _ _ _ _ _ _ ((PN.next N2 HBX).V f2 (by decide)) ((RatC.next C3 HBX).toV f3 (by decide)) ((RatC.next C4 HBX).toV f4 (by decide)) ((RatC.next C5 HBX).toV f5 (by decide)) 9 1 f2 f3 f4 f5 (by decide)).mono ?_; rintro e wq25 ⟨v25q, rfl, CV1, hq25⟩
        obtain ⟨ka1, kb1, kc1, kd1, ke1, kf1, kg1, rfl⟩ := CV1.shape6
        replace hS := hS.next hq25
        replace HBX := below_chain HBX hq25
        replace B14 := B14.next hq25
        replace B15 := B15.next hq25
        replace CV0 := CV0.next hq25
        refine hKK _ _ ⟨fun _ => hS, ?_⟩; clear hKK KK hq25
        refine wpAnyD_one (i := 8) (by kernel_rfl) rfl (fun KK hKK => ?_)
        obtain ⟨bk0, bk1, bk2⟩ := B14.c3
        have bf0 := B14.free 0
        have bf1 := B14.free 1
        have bf2 := B14.free 2
        go_simp
        refine hKK _ _ ⟨fun hn => absurd (by simp) hn, ?_⟩; clear hKK KK
        have P14 := B14.put (.bool ka0) (.slice kb0 kc0 kd0) (.slice ke0 kf0 kg0)
        have P15 := B15.other hne B14.ge (.bool ka0) (.slice kb0 kc0 kd0) (.slice ke0 kf0 kg0)
        have D0 := RatC.putOther B14.res CV0 (.bool ka0) (.slice kb0 kc0 kd0) (.slice ke0 kf0 kg0)
        have D1 := RatC.putOther B14.res CV1 (.bool ka0) (.slice kb0 kc0 kd0) (.slice ke0 kf0 kg0)
        clear bk0 bk1 bk2 bf0 bf1 bf2
        refine wpAnyD_one (i := 9) (by kernel_rfl) rfl (fun KK hKK => ?_)
        obtain ⟨bk0, bk1, bk2⟩ := P15.c3
        have bf0 := P15.free 0
        have bf1 := P15.free 1
        have bf2 := P15.free 2
        go_simp
        refine hKK _ _ ⟨fun hn => absurd (by simp) hn, ?_⟩; clear hKK KK
        have Q15 := P15.put (.bool ka1) (.slice kb1 kc1 kd1) (.slice ke1 kf1 kg1)
        have Q14 := P14.other hne.symm P15.ge (.bool ka1) (.slice kb1 kc1 kd1) (.slice ke1 kf1 kg1)
        have E0 := RatC.putOther P15.res D0 (.bool ka1) (.slice kb1 kc1 kd1) (.slice ke1 kf1 kg1)
        have E1 := RatC.putOther P15.res D1 (.bool ka1) (.slice kb1 kc1 kd1) (.slice ke1 kf1 kg1)
        clear bk0 bk1 bk2 bf0 bf1 bf2
        refine wpAnyD_done (by kernel_rfl) ?_ _
        go_wp2_with fail
        go_meet
        exact ⟨G14, G15, _, _, _, _, _, _, _, _, _, _, _, _, _, _, rfl, rfl, Q14.c3, E0, Q15.c3, E1, Q15.bel⟩
    · skip
      have B15 := Bk.start HBX rfl (.bool false) (.slice none 0 0) (.slice none 0 0) 25
      replace hS := hS.next (below_alloc (.cells #[.bool false, .slice none 0 0, .slice none 0 0] 25))
      replace HBX := below_chain HBX (below_alloc (.cells #[.bool false, .slice none 0 0, .slice none 0 0] 25))
      go_simp
      refine hKK _ _ ⟨fun _ => hS, ?_⟩; clear hKK KK
      obtain ⟨G15, hG26⟩ : ∃ G, wd.heap.size = G := ⟨_, rfl⟩
      rw [hG26] at B15 ⊢
      clear hG26
      generalize wd.alloc (.cells #[.bool false, .slice none 0 0, .slice none 0 0] 25) = wz26 at *
      refine wpAnyD_two (i := 2) (j := 6) (by kernel_rfl) rfl rfl (fun KK hKK => ?_) (fun KK hKK => ?_)
      · skip
        go_simp
        go_at_call 36
        refine (pEvalP_any (madeP l0) _ _ _ _ _ _ _ _ _ _ _ _ _ _ _ _ _ _ _ _ _ _ _ _ _ _ ((PN.next N1 HBX).V f1 (by decide)) ((RatC.next C3 HBX).toV f3 (by decide)) ((RatC.next C4 HBX).toV f4 (by decide)) ((RatC.next C5 HBX).toV f5 (by decide)) 9 1 f1 f3 f4 f5 (by decide)).mono ?_; rintro e wq27 ⟨v27q, rfl, CV0, hq27⟩
        obtain ⟨ka0, kb0, kc0, kd0, ke0, kf0, kg0, rfl⟩ := CV0.shape6
        replace hS := hS.next hq27
        replace HBX := below_chain HBX hq27
        replace B15 := B15.next hq27
        refine hKK _ _ ⟨fun _ => hS, ?_⟩; clear hKK KK hq27
        refine wpAnyD_two (i := 5) (j := 6) (by kernel_rfl) rfl rfl (fun KK hKK => ?_) (fun KK hKK => ?_)
        · skip
          go_simp
          go_at_call 36
          refine (pEvalP_any (madeP l1) _ _ _ _ _ _ _ _ _ _ _ _ _ _ _ _ _ _ _ _ _ _ _ _ _ _ ((PN.next N2 HBX).V f2 (by decide)) ((RatC.next C3 HBX).toV f3 (by decide)) ((RatC.next C4 HBX).toV f4 (by decide)) ((RatC.next C5 HBX).toV f5 (by decide)) 9 1 f2 f3 f4 f5 (by decide)).mono ?_; rintro e wq28 ⟨v28q, rfl, CV1, hq28⟩
          obtain ⟨ka1, kb1, kc1, kd1, ke1, kf1, kg1, rfl⟩ := CV1.shape6
          replace hS := hS.next hq28
          replace HBX := below_chain HBX hq28
          replace B15 := B15.next hq28
          replace CV0 := CV0.next hq28
          refine hKK _ _ ⟨fun _ => hS, ?_⟩; clear hKK KK hq28
          refine wpAnyD_one (i := 6) (by kernel_rfl) rfl (fun KK hKK => ?_)
          have B14 := Bk.start HBX rfl (.bool false) (.slice none 0 0) (.slice none 0 0) 25
          have hne := Nat.ne_of_gt B15.lt
          replace hS := hS.next (below_alloc (.cells #[.bool false, .slice none 0 0, .slice none 0 0] 25))
          replace B15 := B15.next (below_alloc (.cells #[.bool false, .slice none 0 0, .slice none 0 0] 25))
          replace CV0 := CV0.next (below_alloc (.cells #[.bool false, .slice none 0 0, .slice none 0 0] 25))
          replace CV1 := CV1.next (below_alloc (.cells #[.bool false, .slice none 0 0, .slice none 0 0] 25))
          replace HBX := below_chain HBX (below_alloc (.cells #[.bool false, .slice none 0 0, .slice none 0 0] 25))
          go_simp
          refine hKK _ _ ⟨fun _ => hS, ?_⟩; clear hKK KK
          obtain ⟨G14, hG29⟩ : ∃ G, wq28.heap.size = G := ⟨_, rfl⟩
          rw [hG29] at B14 hne ⊢
          clear hG29
          generalize wq28.alloc (.cells #[.bool false, .slice none 0 0, .slice none 0 0] 25) = wz29 at *
          refine wpAnyD_one (i := 8) (by kernel_rfl) rfl (fun KK hKK => ?_)
          obtain ⟨bk0, bk1, bk2⟩ := B14.c3
          have bf0 := B14.free 0
          have bf1 := B14.free 1
          have bf2 := B14.free 2
          go_simp
          refine hKK _ _ ⟨fun hn => absurd (by simp) hn, ?_⟩; clear hKK KK
          have P14 := B14.put (.bool ka0) (.slice kb0 kc0 kd0) (.slice ke0 kf0 kg0)
          have P15 := B15.other hne B14.ge (.bool ka0) (.slice kb0 kc0 kd0) (.slice ke0 kf0 kg0)
          have D0 := RatC.putOther B14.res CV0 (.bool ka0) (.slice kb0 kc0 kd0) (.slice ke0 kf0 kg0)
          have D1 := RatC.putOther B14.res CV1 (.bool ka0) (.slice kb0 kc0 kd0) (.slice ke0 kf0 kg0)
          clear bk0 bk1 bk2 bf0 bf1 bf2
          refine wpAnyD_one (i := 9) (by kernel_rfl) rfl (fun KK hKK => ?_)
          obtain ⟨bk0, bk1, bk2⟩ := P15.c3
          have bf0 := P15.free 0
          have bf1 := P15.free 1
          have bf2 := P15.free 2
          go_simp
          refine hKK _ _ ⟨fun hn => absurd (by simp) hn, ?_⟩; clear hKK KK
          have Q15 := P15.put (.bool ka1) (.slice kb1 kc1 kd1) (.slice ke1 kf1 kg1)
          have Q14 := P14.other hne.symm P15.ge (.bool ka1) (.slice kb1 kc1 kd1) (.slice ke1 kf1 kg1)
          have E0 := RatC.putOther P15.res D0 (.bool ka1) (.slice kb1 kc1 kd1) (.slice ke1 kf1 kg1)
          have E1 := RatC.putOther P15.res D1 (.bool ka1) (.slice kb1 kc1 kd1) (.slice ke1 kf1 kg1)
          clear bk0 bk1 bk2 bf0 bf1 bf2
          refine wpAnyD_done (by kernel_rfl) ?_ _
          go_wp2_with fail
          go_meet
          exact ⟨G14, G15, _, _, _, _, _, _, _, _, _, _, _, _, _, _, rfl, rfl, Q14.c3, E0, Q15.c3, E1, Q15.bel⟩
        · skip
          have B14 := Bk.start HBX rfl (.bool false) (.slice none 0 0) (.slice none 0 0) 25
          have hne := Nat.ne_of_gt B15.lt
          replace hS := hS.next (below_alloc (.cells #[.bool false, .slice none 0 0, .slice none 0 0] 25))
          replace B15 := B15.next (below_alloc (.cells #[.bool false, .slice none 0 0, .slice none 0 0] 25))
          replace CV0 := CV0.next (below_alloc (.cells #[.bool false, .slice none 0 0, .slice none 0 0] 25))
          replace HBX := below_chain HBX (below_alloc (.cells #[.bool false, .slice none 0 0, .slice none 0 0] 25))
          go_simp
          refine hKK _ _ ⟨fun _ => hS, ?_⟩; clear hKK KK
          obtain ⟨G14, hG30⟩ : ∃ G, wq27.heap.size = G := ⟨_, rfl⟩
          rw [hG30] at B14 hne ⊢
          clear hG30
          generalize wq27.alloc (.cells #[.bool false, .slice none 0 0, .slice none 0 0] 25) = wz30 at *
          refine wpAnyD_one (i := 5) (by kernel_rfl) rfl (fun KK hKK => ?_)
          go_simp
          go_at_call 36
          refine (pEvalP_any (madeP l1) _ _ _ _ _ _ _ _ _ _ _ _ _ _ _ _ _ _ _ _ _ _ _ _ _ _ ((PN.next N2 HBX).V f2 (by decide)) ((RatC.next C3 HBX).toV f3 (by decide)) ((RatC.next C4 HBX).toV f4 (by decide)) ((RatC.next C5 HBX).toV f5 (by decide)) 9 1 f2 f3 f4 f5 (by decide)).mono ?_; rintro e wq31 ⟨v31q, rfl, CV1, hq31⟩
          obtain ⟨ka1, kb1, kc1, kd1, ke1, kf1, kg1, rfl⟩ := CV1.shape6
          replace hS := hS.next hq31
          replace HBX := below_chain HBX hq31
          replace B15 := B15.next hq31
          replace CV0 := CV0.next hq31
          replace B14 := B14.next hq31
          refine hKK _ _ ⟨fun _ => hS, ?_⟩; clear hKK KK hq31
          refine wpAnyD_one (i := 8) (by kernel_rfl) rfl (fun KK hKK => ?_)
          obtain ⟨bk0, bk1, bk2⟩ := B14.c3
          have bf0 := B14.free 0
          have bf1 := B14.free 1
          have bf2 := B14.free 2
          go_simp
          refine hKK _ _ ⟨fun hn => absurd (by simp) hn, ?_⟩; clear hKK KK
          have P14 := B14.put (.bool ka0) (.slice kb0 kc0 kd0) (.slice ke0 kf0 kg0)
          have P15 := B15.other hne B14.ge (.bool ka0) (.slice kb0 kc0 kd0) (.slice ke0 kf0 kg0)
          have D0 := RatC.putOther B14.res CV0 (.bool ka0) (.slice kb0 kc0 kd0) (.slice ke0 kf0 kg0)
          have D1 := RatC.putOther B14.res CV1 (.bool ka0) (.slice kb0 kc0 kd0) (.slice ke0 kf0 kg0)
          clear bk0 bk1 bk2 bf0 bf1 bf2
          refine wpAnyD_one (i := 9) (by kernel_rfl) rfl (fun KK hKK => ?_)
          obtain ⟨bk0, bk1, bk2⟩ := P15.c3
          have bf0 := P15.free 0
          have bf1 := P15.free 1
          have bf2 := P15.free 2
          go_simp
          refine hKK _ _ ⟨fun hn => absurd (by simp) hn, ?_⟩; clear hKK KK
          have Q15 := P15.put (.bool ka1) (.slice kb1 kc1 kd1) (.slice ke1 kf1 kg1)
          have Q14 := P14.other hne.symm P15.ge (.bool ka1) (.slice kb1 kc1 kd1) (.slice ke1 kf1 kg1)
          have E0 := RatC.putOther P15.res D0 (.bool ka1) (.slice kb1 kc1 kd1) (.slice ke1 kf1 kg1)
          have E1 := RatC.putOther P15.res D1 (.bool ka1) (.slice kb1 kc1 kd1) (.slice ke1 kf1 kg1)
          clear bk0 bk1 bk2 bf0 bf1 bf2
          refine wpAnyD_done (by kernel_rfl) ?_ _
          go_wp2_with fail
          go_meet
          exact ⟨G14, G15, _, _, _, _, _, _, _, _, _, _, _, _, _, _, rfl, rfl, Q14.c3, E0, Q15.c3, E1, Q15.bel⟩
      · skip
        have B14 := Bk.start HBX rfl (.bool false) (.slice none 0 0) (.slice none 0 0) 25
        have hne := Nat.ne_of_gt B15.lt
        replace hS := hS.next (below_alloc (.cells #[.bool false, .slice none 0 0, .slice none 0 0] 25))
        replace B15 := B15.next (below_alloc (.cells #[.bool false, .slice none 0 0, .slice none 0 0] 25))
        replace HBX := below_chain HBX (below_alloc (.cells #[.bool false, .slice none 0 0, .slice none 0 0] 25))
        go_simp
        refine hKK _ _ ⟨fun _ => hS, ?_⟩; clear hKK KK
        obtain ⟨G14, hG32⟩ : ∃ G, wz26.heap.size = G := ⟨_, rfl⟩
        rw [hG32] at B14 hne ⊢
        clear hG32
        generalize wz26.alloc (.cells #[.bool false, .slice none 0 0, .slice none 0 0] 25) = wz32 at *
        refine wpAnyD_one (i := 2) (by kernel_rfl) rfl (fun KK hKK => ?_)
        go_simp
        go_at_call 36
        refine (pEvalP_any (madeP l0) _ _ _ _ _ _ _ _ _ _ _ _ _ _ _ _ _ _ _ _ _ _ _ _ _ _ ((PN.next N1 HBX).V f1 (by decide)) ((RatC.next C3 HBX).toV f3 (by decide)) ((RatC.next C4 HBX).toV f4 (by decide)) ((RatC.next C5 HBX).toV f5 (by decide)) 9 1 f1 f3 f4 f5 (by decide)).mono ?_; rintro e wq33 ⟨v33q, rfl, CV0, hq33⟩
        obtain ⟨ka0, kb0, kc0, kd0, ke0, kf0, kg0, rfl⟩ := CV0.shape6
        replace hS := hS.next hq33
        replace HBX := below_chain HBX hq33
        replace B15 := B15.next hq33
        replace B14 := B14.next hq33
        refine hKK _ _ ⟨fun _ => hS, ?_⟩; clear hKK KK hq33
        refine wpAnyD_one (i := 5) (by kernel_rfl) rfl (fun KK hKK => ?_)
        go_simp
        go_at_call 36
        refine (pEvalP_any (madeP l1) _ _ _ _ _ _ _ _ _ _ _ _ _ _ _ _ _ _ _ _ _ _ _ _ _ _ ((PN.next N2 HBX).V f2 (by decide)) ((RatC.next C3 HBX).toV f3 (by decide)) ((RatC.next C4 HBX).toV f4 (by decide)) ((RatC.next C5 HBX).toV f5 (by decide)) 9 1 f2 f3 f4 f5 (by decide)).mono ?_; rintro e wq34 ⟨v34q, rfl, CV1, hq34⟩
        obtain ⟨ka1, kb1, kc1, kd1, ke1, kf1, kg1, rfl⟩ := CV1.shape6
        replace hS := hS.next hq34
        replace HBX := below_chain HBX hq34
        replace B15 := B15.next hq34
        replace B14 := B14.next hq34
        replace CV0 := CV0.next hq34
        refine hKK _ _ ⟨fun _ => hS, ?_⟩; clear hKK KK hq34
        refine wpAnyD_one (i := 8) (by kernel_rfl) rfl (fun KK hKK => ?_)
        obtain ⟨bk0, bk1, bk2⟩ := B14.c3
        have bf0 := B14.free 0
        have bf1 := B14.free 1
        have bf2 := B14.free 2
        go_simp
        refine hKK _ _ ⟨fun hn => absurd (by simp) hn, ?_⟩; clear hKK KK
        have P14 := B14.put (.bool ka0) (.slice kb0 kc0 kd0) (.slice ke0 kf0 kg0)
        have P15 := B15.other hne B14.ge (.bool ka0) (.slice kb0 kc0 kd0) (.slice ke0 kf0 kg0)
        have D0 := RatC.putOther B14.res CV0 (.bool ka0) (.slice kb0 kc0 kd0) (.slice ke0 kf0 kg0)
        have D1 := RatC.putOther B14.res CV1 (.bool ka0) (.slice kb0 kc0 kd0) (.slice ke0 kf0 kg0)
        clear bk0 bk1 bk2 bf0 bf1 bf2
        refine wpAnyD_one (i := 9) (by kernel_rfl) rfl (fun KK hKK => ?_)
        obtain ⟨bk0, bk1, bk2⟩ := P15.c3
        have bf0 := P15.free 0
        have bf1 := P15.free 1
        have bf2 := P15.free 2
        go_simp
        refine hKK _ _ ⟨fun hn => absurd (by simp) hn, ?_⟩; clear hKK KK
        have Q15 := P15.put (.bool ka1) (.slice kb1 kc1 kd1) (.slice ke1 kf1 kg1)
        have Q14 := P14.other hne.symm P15.ge (.bool ka1) (.slice kb1 kc1 kd1) (.slice ke1 kf1 kg1)
        have E0 := RatC.putOther P15.res D0 (.bool ka1) (.slice kb1 kc1 kd1) (.slice ke1 kf1 kg1)
        have E1 := RatC.putOther P15.res D1 (.bool ka1) (.slice kb1 kc1 kd1) (.slice ke1 kf1 kg1)
        clear bk0 bk1 bk2 bf0 bf1 bf2
        refine wpAnyD_done (by kernel_rfl) ?_ _
        go_wp2_with fail
        go_meet
        exact ⟨G14, G15, _, _, _, _, _, _, _, _, _, _, _, _, _, _, rfl, rfl, Q14.c3, E0, Q15.c3, E1, Q15.bel⟩
  case rest =>
    obtain ⟨G14, G15, ka0, kb0, kc0, kd0, ke0, kf0, kg0, ka1, kb1, kc1, kd1, ke1, kf1, kg1, rfl, rfl, c14, CV0, c15, CV1, hbc⟩ := hcut
    have g0 : Fit 841 (evalP (numQ x) (numQ y) (numQ z) (madeP l0)) := fit_evP f1 f3 f4 f5
    have g1 : Fit 841 (evalP (numQ x) (numQ y) (numQ z) (madeP l1)) := fit_evP f2 f3 f4 f5
    replace N1 := N1.next hbc
    replace N2 := N2.next hbc
    have A0 := (RatC.next C3 hbc).toV f3 (by decide)
    have A1 := (RatC.next C4 hbc).toV f4 (by decide)
    have A2 := (RatC.next C5 hbc).toV f5 (by decide)
    replace HP := HP.next hbc
    replace HB := below_chain HB hbc
    have HS : EvS G13 ra3 rb3 rc3 rd3 re3 rf3 rg3 ra4 rb4 rc4 rd4 re4 rf4 rg4 ra5 rb5 rc5 rd5 re5 rf5 rg5 G14 (.bool ka0) (.slice kb0 kc0 kd0) (.slice ke0 kf0 kg0) G15 (.bool ka1) (.slice kb1 kc1 kd1) (.slice ke1 kf1 kg1) wc := ⟨hA0.out.next hbc, c14, c15⟩
    clear C3 C4 C5 c14 c15 hbc hA0 hA hS HBX hdd
    go_upto_region 4 with fail
    have hd := (Below.refl wc.heap.size wc).drew
    replace N1 := N1.next hd
    replace N2 := N2.next hd
    replace A0 := A0.next hd
    replace A1 := A1.next hd
    replace A2 := A2.next hd
    replace HP := HP.next hd
    replace HS := HS.next hd
    replace CV0 := CV0.next hd
    replace CV1 := CV1.next hd
    replace HB := HB.trans (hd.mono HB.size)
    have hS0 : At9 G13 ra3 rb3 rc3 rd3 re3 rf3 rg3 ra4 rb4 rc4 rd4 re4 rf4 rg4 ra5 rb5 rc5 rd5 re5 rf5 rg5 wc.drew ∧ C3 G14 (.bool ka0) (.slice kb0 kc0 kd0) (.slice ke0 kf0 kg0) wc.drew ∧ C3 G15 (.bool ka1) (.slice kb1 kc1 kd1) (.slice ke1 kf1 kg1) wc.drew := HS
    have hKp : ∀ w' w'', (At9 G13 ra3 rb3 rc3 rd3 re3 rf3 rg3 ra4 rb4 rc4 rd4 re4 rf4 rg4 ra5 rb5 rc5 rd5 re5 rf5 rg5 w' ∧ C3 G14 (.bool ka0) (.slice kb0 kc0 kd0) (.slice ke0 kf0 kg0) w' ∧ C3 G15 (.bool ka1) (.slice kb1 kc1 kd1) (.slice ke1 kf1 kg1) w') → Below w'.heap.size w' w'' → (At9 G13 ra3 rb3 rc3 rd3 re3 rf3 rg3 ra4 rb4 rc4 rd4 re4 rf4 rg4 ra5 rb5 rc5 rd5 re5 rf5 rg5 w'' ∧ C3 G14 (.bool ka0) (.slice kb0 kc0 kd0) (.slice ke0 kf0 kg0) w'' ∧ C3 G15 (.bool ka1) (.slice kb1 kc1 kd1) (.slice ke1 kf1 kg1) w'') := fun w' w'' h hb => EvS.next (show EvS G13 ra3 rb3 rc3 rd3 re3 rf3 rg3 ra4 rb4 rc4 rd4 re4 rf4 rg4 ra5 rb5 rc5 rd5 re5 rf5 rg5 G14 (.bool ka0) (.slice kb0 kc0 kd0) (.slice ke0 kf0 kg0) G15 (.bool ka1) (.slice kb1 kc1 kd1) (.slice ke1 kf1 kg1) w' from h) hb
    refine wp_region_held_drew (S := (fun w' => At9 G13 ra3 rb3 rc3 rd3 re3 rf3 rg3 ra4 rb4 rc4 rd4 re4 rf4 rg4 ra5 rb5 rc5 rd5 re5 rf5 rg5 w' ∧ C3 G14 (.bool ka0) (.slice kb0 kc0 kd0) (.slice ke0 kf0 kg0) w' ∧ C3 G15 (.bool ka1) (.slice kb1 kc1 kd1) (.slice ke1 kf1 kg1) w')) (by kernel_rfl) (hS0) (fun hHeld => ?_)
    refine held_take (i := 0) (d := 33) (v := ?_) rfl rfl (by kernel_rfl) (by kernel_rfl) (by kernel_rfl) (fun _ _ _ h => h) (by rfl) ?_ hHeld ?_
    rotate_left
    · intro w hSw; obtain ⟨⟨q0', q1', q2', q3', q4', q5', q6', q7', q8'⟩, ⟨c1', c2', c3'⟩, c4', c5', c6'⟩ := hSw; go_simp; with_reducible rfl
    try simp only [Act.put, List.setIfInBounds_toArray, List.set_cons_zero, List.set_cons_succ]
    refine held_take (i := 1) (d := 34) (v := ?_) rfl rfl (by kernel_rfl) (by kernel_rfl) (by kernel_rfl) (fun _ _ _ h => h) (by rfl) ?_ hHeld ?_
    rotate_left
    · intro w hSw; obtain ⟨⟨q0', q1', q2', q3', q4', q5', q6', q7', q8'⟩, ⟨c1', c2', c3'⟩, c4', c5', c6'⟩ := hSw; go_simp; with_reducible rfl
    try simp only [Act.put, List.setIfInBounds_toArray, List.set_cons_zero, List.set_cons_succ]
    refine held_take (i := 3) (d := 36) (v := ?_) rfl rfl (by kernel_rfl) (by kernel_rfl) (by kernel_rfl) (fun _ _ _ h => h) (by rfl) ?_ hHeld ?_
    rotate_left
    · intro w hSw; obtain ⟨⟨q0', q1', q2', q3', q4', q5', q6', q7', q8'⟩, ⟨c1', c2', c3'⟩, c4', c5', c6'⟩ := hSw; go_simp; with_reducible rfl
    try simp only [Act.put, List.setIfInBounds_toArray, List.set_cons_zero, List.set_cons_succ]
    refine held_take (i := 5) (d := 38) (v := ?_) rfl rfl (by kernel_rfl) (by kernel_rfl) (by kernel_rfl) (fun _ _ _ h => h) (by rfl) ?_ hHeld ?_
    rotate_left
    · intro w hSw; obtain ⟨⟨q0', q1', q2', q3', q4', q5', q6', q7', q8'⟩, ⟨c1', c2', c3'⟩, c4', c5', c6'⟩ := hSw; go_simp; with_reducible rfl
    try simp only [Act.put, List.setIfInBounds_toArray, List.set_cons_zero, List.set_cons_succ]
    refine held_take (i := 6) (d := 39) (v := ?_) rfl rfl (by kernel_rfl) (by kernel_rfl) (by kernel_rfl) (fun _ _ _ h => h) (by rfl) ?_ hHeld ?_
    rotate_left
    · intro w hSw; obtain ⟨⟨q0', q1', q2', q3', q4', q5', q6', q7', q8'⟩, ⟨c1', c2', c3'⟩, c4', c5', c6'⟩ := hSw; go_simp; with_reducible rfl
    try simp only [Act.put, List.setIfInBounds_toArray, List.set_cons_zero, List.set_cons_succ]
    refine wpAnyH_ready (rs := [2]) (by kernel_rfl) (by simp) (AllReadyH.cons rfl (fun K hK => ?_) AllReadyH.nil)
    go_simp
    go_at_call 17
    refine (pAdd_any (madeP l0) (madeP l1) _ _ _ (N1.V f1 (by decide)) (N2.V f2 (by decide)) 9 f1 f2 (by decide)).mono ?_; intro e wx11 hx11; obtain ⟨o11, n11, c11, rfl, N11, hb11⟩ := hx11.pn
    have f11 : FitP 19 (addP (madeP l0) (madeP l1)) := FitP.add f1 f2
    replace N1 := N1.next hb11
    replace N2 := N2.next hb11
    replace A0 := A0.next hb11
    replace A1 := A1.next hb11
    replace A2 := A2.next hb11
    replace HP := HP.next hb11
    replace HS := HS.next hb11
    replace CV0 := CV0.next hb11
    replace CV1 := CV1.next hb11
    replace HB := below_chain HB hb11
    go_wp2_with fail
    refine hK.out _ _ (hKp _ _ hHeld hb11) (fun hHeld => ?_)
    clear hK K hb11
    try simp only [Act.put, List.setIfInBounds_toArray, List.set_cons_zero, List.set_cons_succ]
    refine wpAnyH_ready (rs := [4]) (by kernel_rfl) (by simp) (AllReadyH.cons rfl (fun K hK => ?_) AllReadyH.nil)
    go_simp
    go_at_call 36
    refine (pEvalP_any (addP (madeP l0) (madeP l1)) _ _ _ _ _ _ _ _ _ _ _ _ _ _ _ _ _ _ _ _ _ _ _ _ _ _ (N11.V f11 (by decide)) A0 A1 A2 19 1 f11 f3 f4 f5 (by decide)).mono ?_; rintro e wx12 ⟨v12, rfl, C12, hb12⟩
    obtain ⟨ra12, rb12, rc12, rd12, re12, rf12, rg12, rfl⟩ := C12.shape6
    have f12 : Fit 1401 (evalP (numQ x) (numQ y) (numQ z) (addP (madeP l0) (madeP l1))) := fit_evP f11 f3 f4 f5
    replace N1 := N1.next hb12
    replace N2 := N2.next hb12
    replace A0 := A0.next hb12
    replace A1 := A1.next hb12
    replace A2 := A2.next hb12
    replace HP := HP.next hb12
    replace HS := HS.next hb12
    replace CV0 := CV0.next hb12
    replace CV1 := CV1.next hb12
    replace HB := below_chain HB hb12
    go_wp2_with fail
    refine hK.out _ _ (hKp _ _ hHeld hb12) (fun hHeld => ?_)
    clear hK K hb12
    try simp only [Act.put, List.setIfInBounds_toArray, List.set_cons_zero, List.set_cons_succ]
    refine wpAnyH_ready (rs := [7]) (by kernel_rfl) (by simp) (AllReadyH.cons rfl (fun K hK => ?_) AllReadyH.nil)
    go_simp
    go_at_call 39
    refine (rAdd_any (evalP (numQ x) (numQ y) (numQ z) (madeP l0)) (evalP (numQ x) (numQ y) (numQ z) (madeP l1)) _ _ _ (CV0.toV g0 (by decide)) (CV1.toV g1 (by decide)) 841 (g0.mono (by decide)) (g1.mono (by decide)) (by decide)).mono ?_; rintro e wx13 ⟨v13, rfl, C13, hb13⟩
    obtain ⟨ra13, rb13, rc13, rd13, re13, rf13, rg13, rfl⟩ := C13.shape6
    have f13 : Fit 1683 ((evalP (numQ x) (numQ y) (numQ z) (madeP l0)) + (evalP (numQ x) (numQ y) (numQ z) (madeP l1))) := fit_add g0 g1
    replace N1 := N1.next hb13
    replace N2 := N2.next hb13
    replace A0 := A0.next hb13
    replace A1 := A1.next hb13
    replace A2 := A2.next hb13
    replace HP := HP.next hb13
    replace HS := HS.next hb13
    replace CV0 := CV0.next hb13
    replace CV1 := CV1.next hb13
    replace C12 := C12.next hb13
    replace HB := below_chain HB hb13
    go_wp2_with fail
    refine hK.out _ _ (hKp _ _ hHeld hb13) (fun hHeld => ?_)
    clear hK K hb13
    try simp only [Act.put, List.setIfInBounds_toArray, List.set_cons_zero, List.set_cons_succ]
    refine wpAnyH_ready (rs := [8]) (by kernel_rfl) (by simp) (AllReadyH.cons rfl (fun K hK => ?_) AllReadyH.nil)
    go_simp
    go_at_call 23
    refine (rSameE (evalP (numQ x) (numQ y) (numQ z) (addP (madeP l0) (madeP l1))) ((evalP (numQ x) (numQ y) (numQ z) (madeP l0)) + (evalP (numQ x) (numQ y) (numQ z) (madeP l1))) (eval_add _ _ _ _ _) _ _ _ C12 C13).mono ?_; rintro e wx14 ⟨rfl, hb14⟩
    replace N1 := N1.next hb14
    replace N2 := N2.next hb14
    replace A0 := A0.next hb14
    replace A1 := A1.next hb14
    replace A2 := A2.next hb14
    replace HP := HP.next hb14
    replace HS := HS.next hb14
    replace CV0 := CV0.next hb14
    replace CV1 := CV1.next hb14
    replace HB := below_chain HB hb14
    go_wp2_with fail
    refine hK.out _ _ (hKp _ _ hHeld hb14) (fun hHeld => ?_)
    clear hK K hb14
    try simp only [Act.put, List.setIfInBounds_toArray, List.set_cons_zero, List.set_cons_succ]
    refine held_take (i := 9) (d := 42) (v := ?_) rfl rfl (by kernel_rfl) (by kernel_rfl) (by kernel_rfl) (fun _ _ _ h => h) (by rfl) ?_ hHeld ?_
    rotate_left
    · intro w hSw; obtain ⟨⟨q0', q1', q2', q3', q4', q5', q6', q7', q8'⟩, ⟨c1', c2', c3'⟩, c4', c5', c6'⟩ := hSw; go_simp; with_reducible rfl
    try simp only [Act.put, List.setIfInBounds_toArray, List.set_cons_zero, List.set_cons_succ]
    refine wpAnyH_done (by kernel_rfl) ?_ _
    clear hKp hS0 hHeld hd
    go_wp2_with fail
    refine (degP_any (madeP l0) _ _ _ _ N1).mono ?_; rintro e wx15 ⟨⟨D15, rfl, hD15, hall15⟩, hb15⟩
    replace N1 := N1.next hb15
    replace N2 := N2.next hb15
    replace A0 := A0.next hb15
    replace A1 := A1.next hb15
    replace A2 := A2.next hb15
    replace HP := HP.next hb15
    replace HS := HS.next hb15
    replace CV0 := CV0.next hb15
    replace CV1 := CV1.next hb15
    replace HB := below_chain HB hb15
    clear hb15 C12 C13 N11
    go_wp2_with fail
    refine (degP_any (madeP l1) _ _ _ _ N2).mono ?_; rintro e wx16 ⟨⟨D16, rfl, hD16, hall16⟩, hb16⟩
    replace N1 := N1.next hb16
    replace N2 := N2.next hb16
    replace A0 := A0.next hb16
    replace A1 := A1.next hb16
    replace A2 := A2.next hb16
    replace HP := HP.next hb16
    replace HS := HS.next hb16
    replace CV0 := CV0.next hb16
    replace CV1 := CV1.next hb16
    replace HB := below_chain HB hb16
    clear hb16
    obtain ⟨T, hT⟩ : ∃ T, D15 + D16 = T := ⟨_, rfl⟩
    have wT : IntKind.i64.wrap ((D15 : Int) + (D16 : Int)) = (T : Int) := by rw [IntKind.wrap_i64]; omega
    by_cases h5 : 5 < T
    · have c1 : decide ((5 : Int) < (T : Int)) = true := by rw [decide_eq_true_iff]; omega
      clear hT
      go_wp2_with fail
      refine (lpawake_any _ HP).mono ?_; rintro e wq ⟨rfl, hbq⟩
      go_wp2_with fail
      go_ret
      exact ⟨rfl, below_chain HB hbq⟩
    · have c1 : decide ((5 : Int) < (T : Int)) = false := by rw [decide_eq_false_iff_not]; omega
      have hmul : (evalP (numQ x) (numQ y) (numQ z) (mulP (madeP l0) (madeP l1))) = (evalP (numQ x) (numQ y) (numQ z) (madeP l0)) * (evalP (numQ x) (numQ y) (numQ z) (madeP l1)) := eval_mul _ _ _ _ _ (fun d e hd he h1 h2 => by
        have k1 := hall15 (d, madeP l0 d) (List.mem_map.2 ⟨d, mem_supp.2 ⟨hd, h1⟩, rfl⟩)
        have k2 := hall16 (e, madeP l1 e) (List.mem_map.2 ⟨e, mem_supp.2 ⟨he, h2⟩, rfl⟩)
        simp only at k1 k2
        omega)
      have Hmul := hid hmul
      clear hT hmul h5
      go_upto_region 8 with fail
      have hd := (Below.refl wx16.heap.size wx16).drew
      replace N1 := N1.next hd
      replace N2 := N2.next hd
      replace A0 := A0.next hd
      replace A1 := A1.next hd
      replace A2 := A2.next hd
      replace HP := HP.next hd
      replace HS := HS.next hd
      replace CV0 := CV0.next hd
      replace CV1 := CV1.next hd
      replace HB := HB.trans (hd.mono HB.size)
      have hS0 : At9 G13 ra3 rb3 rc3 rd3 re3 rf3 rg3 ra4 rb4 rc4 rd4 re4 rf4 rg4 ra5 rb5 rc5 rd5 re5 rf5 rg5 wx16.drew ∧ C3 G14 (.bool ka0) (.slice kb0 kc0 kd0) (.slice ke0 kf0 kg0) wx16.drew ∧ C3 G15 (.bool ka1) (.slice kb1 kc1 kd1) (.slice ke1 kf1 kg1) wx16.drew := HS
      have hKp : ∀ w' w'', (At9 G13 ra3 rb3 rc3 rd3 re3 rf3 rg3 ra4 rb4 rc4 rd4 re4 rf4 rg4 ra5 rb5 rc5 rd5 re5 rf5 rg5 w' ∧ C3 G14 (.bool ka0) (.slice kb0 kc0 kd0) (.slice ke0 kf0 kg0) w' ∧ C3 G15 (.bool ka1) (.slice kb1 kc1 kd1) (.slice ke1 kf1 kg1) w') → Below w'.heap.size w' w'' → (At9 G13 ra3 rb3 rc3 rd3 re3 rf3 rg3 ra4 rb4 rc4 rd4 re4 rf4 rg4 ra5 rb5 rc5 rd5 re5 rf5 rg5 w'' ∧ C3 G14 (.bool ka0) (.slice kb0 kc0 kd0) (.slice ke0 kf0 kg0) w'' ∧ C3 G15 (.bool ka1) (.slice kb1 kc1 kd1) (.slice ke1 kf1 kg1) w'') := fun w' w'' h hb => EvS.next (show EvS G13 ra3 rb3 rc3 rd3 re3 rf3 rg3 ra4 rb4 rc4 rd4 re4 rf4 rg4 ra5 rb5 rc5 rd5 re5 rf5 rg5 G14 (.bool ka0) (.slice kb0 kc0 kd0) (.slice ke0 kf0 kg0) G15 (.bool ka1) (.slice kb1 kc1 kd1) (.slice ke1 kf1 kg1) w' from h) hb
      refine wp_region_held_drew (S := (fun w' => At9 G13 ra3 rb3 rc3 rd3 re3 rf3 rg3 ra4 rb4 rc4 rd4 re4 rf4 rg4 ra5 rb5 rc5 rd5 re5 rf5 rg5 w' ∧ C3 G14 (.bool ka0) (.slice kb0 kc0 kd0) (.slice ke0 kf0 kg0) w' ∧ C3 G15 (.bool ka1) (.slice kb1 kc1 kd1) (.slice ke1 kf1 kg1) w')) (by kernel_rfl) (hS0) (fun hHeld => ?_)
      refine wpAnyH_ready (rs := [0]) (by kernel_rfl) (by simp) (AllReadyH.cons rfl (fun K hK => ?_) AllReadyH.nil)
      go_simp
      go_at_call 13
      refine (lpawake_any _ HP).mono ?_; rintro e wx31 ⟨rfl, hb31⟩
      replace N1 := N1.next hb31
      replace N2 := N2.next hb31
      replace A0 := A0.next hb31
      replace A1 := A1.next hb31
      replace A2 := A2.next hb31
      replace CV0 := CV0.next hb31
      replace CV1 := CV1.next hb31
      replace HB := below_chain HB hb31
      go_wp2_with fail
      refine hK.out _ _ (hKp _ _ hHeld hb31) (fun hHeld => ?_)
      clear hK K hb31
      try simp only [Act.put, List.setIfInBounds_toArray, List.set_cons_zero, List.set_cons_succ]
      refine held_take (i := 1) (d := 51) (v := ?_) rfl rfl (by kernel_rfl) (by kernel_rfl) (by kernel_rfl) (fun _ _ _ h => h) (by rfl) ?_ hHeld ?_
      rotate_left
      · intro w hSw; obtain ⟨⟨q0', q1', q2', q3', q4', q5', q6', q7', q8'⟩, ⟨c1', c2', c3'⟩, c4', c5', c6'⟩ := hSw; go_simp; with_reducible rfl
      try simp only [Act.put, List.setIfInBounds_toArray, List.set_cons_zero, List.set_cons_succ]
      refine held_take (i := 2) (d := 52) (v := ?_) rfl rfl (by kernel_rfl) (by kernel_rfl) (by kernel_rfl) (fun _ _ _ h => h) (by rfl) ?_ hHeld ?_
      rotate_left
      · intro w hSw; obtain ⟨⟨q0', q1', q2', q3', q4', q5', q6', q7', q8'⟩, ⟨c1', c2', c3'⟩, c4', c5', c6'⟩ := hSw; go_simp; with_reducible rfl
      try simp only [Act.put, List.setIfInBounds_toArray, List.set_cons_zero, List.set_cons_succ]
      refine held_take (i := 3) (d := 53) (v := ?_) rfl rfl (by kernel_rfl) (by kernel_rfl) (by kernel_rfl) (fun _ _ _ h => h) (by rfl) ?_ hHeld ?_
      rotate_left
      · intro w hSw; obtain ⟨⟨q0', q1', q2', q3', q4', q5', q6', q7', q8'⟩, ⟨c1', c2', c3'⟩, c4', c5', c6'⟩ := hSw; go_simp; with_reducible rfl
      try simp only [Act.put, List.setIfInBounds_toArray, List.set_cons_zero, List.set_cons_succ]
      refine held_take (i := 5) (d := 55) (v := ?_) rfl rfl (by kernel_rfl) (by kernel_rfl) (by kernel_rfl) (fun _ _ _ h => h) (by rfl) ?_ hHeld ?_
      rotate_left
      · intro w hSw; obtain ⟨⟨q0', q1', q2', q3', q4', q5', q6', q7', q8'⟩, ⟨c1', c2', c3'⟩, c4', c5', c6'⟩ := hSw; go_simp; with_reducible rfl
      try simp only [Act.put, List.setIfInBounds_toArray, List.set_cons_zero, List.set_cons_succ]
      refine held_take (i := 7) (d := 57) (v := ?_) rfl rfl (by kernel_rfl) (by kernel_rfl) (by kernel_rfl) (fun _ _ _ h => h) (by rfl) ?_ hHeld ?_
      rotate_left
      · intro w hSw; obtain ⟨⟨q0', q1', q2', q3', q4', q5', q6', q7', q8'⟩, ⟨c1', c2', c3'⟩, c4', c5', c6'⟩ := hSw; go_simp; with_reducible rfl
      try simp only [Act.put, List.setIfInBounds_toArray, List.set_cons_zero, List.set_cons_succ]
      refine held_take (i := 8) (d := 58) (v := ?_) rfl rfl (by kernel_rfl) (by kernel_rfl) (by kernel_rfl) (fun _ _ _ h => h) (by rfl) ?_ hHeld ?_
      rotate_left
      · intro w hSw; obtain ⟨⟨q0', q1', q2', q3', q4', q5', q6', q7', q8'⟩, ⟨c1', c2', c3'⟩, c4', c5', c6'⟩ := hSw; go_simp; with_reducible rfl
      try simp only [Act.put, List.setIfInBounds_toArray, List.set_cons_zero, List.set_cons_succ]
      refine wpAnyH_ready (rs := [4]) (by kernel_rfl) (by simp) (AllReadyH.cons rfl (fun K hK => ?_) AllReadyH.nil)
      go_simp
      go_at_call 19
      refine (pMul_any (madeP l0) (madeP l1) _ _ _ (N1.V f1 (by decide)) (N2.V f2 (by decide)) 9 9 56 f1 f2 (.inl (len_lst _)) (by decide)).mono ?_; intro e wx32 hx32; obtain ⟨o32, n32, c32, rfl, N32, hb32⟩ := hx32.pn
      have f32 : FitP 1084 (mulP (madeP l0) (madeP l1)) := (fit_mulP f1 f2 (.inl (len_lst _))).mono (by decide)
      replace A0 := A0.next hb32
      replace A1 := A1.next hb32
      replace A2 := A2.next hb32
      replace CV0 := CV0.next hb32
      replace CV1 := CV1.next hb32
      replace HB := below_chain HB hb32
      go_wp2_with fail
      refine hK.out _ _ (hKp _ _ hHeld hb32) (fun hHeld => ?_)
      clear hK K hb32
      try simp only [Act.put, List.setIfInBounds_toArray, List.set_cons_zero, List.set_cons_succ]
      refine wpAnyH_ready (rs := [6]) (by kernel_rfl) (by simp) (AllReadyH.cons rfl (fun K hK => ?_) AllReadyH.nil)
      go_simp
      go_at_call 36
      refine (pEvalP_any (mulP (madeP l0) (madeP l1)) _ _ _ _ _ _ _ _ _ _ _ _ _ _ _ _ _ _ _ _ _ _ _ _ _ _ (N32.V f32 (by decide)) A0 A1 A2 1084 1 f32 f3 f4 f5 (by decide)).mono ?_; rintro e wx33 ⟨v33, rfl, C33, hb33⟩
      obtain ⟨ra33, rb33, rc33, rd33, re33, rf33, rg33, rfl⟩ := C33.shape6
      have f33 : Fit 61041 (evalP (numQ x) (numQ y) (numQ z) (mulP (madeP l0) (madeP l1))) := fit_evP f32 f3 f4 f5
      replace CV0 := CV0.next hb33
      replace CV1 := CV1.next hb33
      replace HB := below_chain HB hb33
      go_wp2_with fail
      refine hK.out _ _ (hKp _ _ hHeld hb33) (fun hHeld => ?_)
      clear hK K hb33
      try simp only [Act.put, List.setIfInBounds_toArray, List.set_cons_zero, List.set_cons_succ]
      refine wpAnyH_ready (rs := [9]) (by kernel_rfl) (by simp) (AllReadyH.cons rfl (fun K hK => ?_) AllReadyH.nil)
      go_simp
      go_at_call 41
      refine (rMul_any (evalP (numQ x) (numQ y) (numQ z) (madeP l0)) (evalP (numQ x) (numQ y) (numQ z) (madeP l1)) _ _ _ (CV0.toV g0 (by decide)) (CV1.toV g1 (by decide)) 841 (g0.mono (by decide)) (g1.mono (by decide)) (by decide)).mono ?_; rintro e wx34 ⟨v34, rfl, C34, hb34⟩
      obtain ⟨ra34, rb34, rc34, rd34, re34, rf34, rg34, rfl⟩ := C34.shape6
      have f34 : Fit 1682 ((evalP (numQ x) (numQ y) (numQ z) (madeP l0)) * (evalP (numQ x) (numQ y) (numQ z) (madeP l1))) := fit_mul g0 g1
      replace C33 := C33.next hb34
      replace HB := below_chain HB hb34
      go_wp2_with fail
      refine hK.out _ _ (hKp _ _ hHeld hb34) (fun hHeld => ?_)
      clear hK K hb34
      try simp only [Act.put, List.setIfInBounds_toArray, List.set_cons_zero, List.set_cons_succ]
      refine wpAnyH_ready (rs := [10]) (by kernel_rfl) (by simp) (AllReadyH.cons rfl (fun K hK => ?_) AllReadyH.nil)
      go_simp
      go_at_call 23
      refine (rSameE (evalP (numQ x) (numQ y) (numQ z) (mulP (madeP l0) (madeP l1))) ((evalP (numQ x) (numQ y) (numQ z) (madeP l0)) * (evalP (numQ x) (numQ y) (numQ z) (madeP l1))) (Hmul.out) _ _ _ C33 C34).mono ?_; rintro e wx35 ⟨rfl, hb35⟩
      replace HB := below_chain HB hb35
      go_wp2_with fail
      refine hK.out _ _ (hKp _ _ hHeld hb35) (fun hHeld => ?_)
      clear hK K hb35
      try simp only [Act.put, List.setIfInBounds_toArray, List.set_cons_zero, List.set_cons_succ]
      refine held_take (i := 11) (d := 61) (v := ?_) rfl rfl (by kernel_rfl) (by kernel_rfl) (by kernel_rfl) (fun _ _ _ h => h) (by rfl) ?_ hHeld ?_
      rotate_left
      · intro w hSw; obtain ⟨⟨q0', q1', q2', q3', q4', q5', q6', q7', q8'⟩, ⟨c1', c2', c3'⟩, c4', c5', c6'⟩ := hSw; go_simp; with_reducible rfl
      try simp only [Act.put, List.setIfInBounds_toArray, List.set_cons_zero, List.set_cons_succ]
      refine held_take (i := 12) (d := 10) (v := ?_) rfl rfl (by kernel_rfl) (by kernel_rfl) (by kernel_rfl) (fun _ _ _ h => h) (by rfl) ?_ hHeld ?_
      rotate_left
      · intro w hSw; obtain ⟨⟨q0', q1', q2', q3', q4', q5', q6', q7', q8'⟩, ⟨c1', c2', c3'⟩, c4', c5', c6'⟩ := hSw; go_simp; with_reducible rfl
      try simp only [Act.put, List.setIfInBounds_toArray, List.set_cons_zero, List.set_cons_succ]
      refine wpAnyH_done (by kernel_rfl) ?_ _
      go_wp2_with fail
      go_ret
      exact ⟨rfl, HB⟩

end Go.Proofs.YtgohfieleckmgaaGreatDoor
