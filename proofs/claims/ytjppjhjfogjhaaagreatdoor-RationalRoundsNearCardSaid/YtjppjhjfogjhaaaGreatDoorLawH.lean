/-
  The walk of RationalRoundsNear. No condition but the table of powers of ten.
-/
import Derived.Test.YtjppjhjfogjhaaaGreatDoorLawF
namespace Go.Proofs.YtjppjhjfogjhaaaGreatDoor
open Go.RowKit Go.Lib
set_option linter.unusedSimpArgs false
set_option linter.unusedVariables false

theorem RatC.new {w : World} {v : Value} {q : Rat} (h : RatC w v q) (o : Obj) : RatC (w.alloc o) v q := h.next (below_alloc o)

/-- Two rationals in variables of their own, beside two that were there. -/
def TwoRat (w : World) (q r : Rat) (a0 b0 c0 a1 b1 c1 : Value) (v7 v8 : Value) (wx : World) : Prop :=
  ∃ (g h : Nat) (xs : Bool) (xo : Option Addr) (xn xc : Nat) (yo : Option Addr) (yn yc : Nat) (zs : Bool) (zo : Option Addr) (zn zc : Nat) (uo : Option Addr) (un uc : Nat),
    v7 = .pointer (some ⟨g, 0, none⟩) ∧ v8 = .pointer (some ⟨h, 0, none⟩) ∧ C3 g (.bool xs) (.slice xo xn xc) (.slice yo yn yc) wx ∧ C3 h (.bool zs) (.slice zo zn zc) (.slice uo un uc) wx ∧
    RatC wx (.agg #[.bool xs, .slice xo xn xc, .slice yo yn yc]) q ∧ RatC wx (.agg #[.bool zs, .slice zo zn zc, .slice uo un uc]) r ∧ C3 w.heap.size a0 b0 c0 wx ∧ C3 (w.heap.size + 1) a1 b1 c1 wx ∧ Below w.heap.size w wx

theorem near_bits {x y : Rat} {i : Int} (h0 : 0 ≤ i) (h1 : i ≤ 256) : ∃ (b : Nat) (c p q n1 n2 n3 n4 : Int), i = (b : Int) ∧ b ≤ 256 ∧ rsg (x - y) = c ∧ rsg (downI x i - downI y i) = p ∧ rsg (upI x i - upI y i) = q ∧ rsg (downI x i - x) = n1 ∧ rsg (x - upI x i) = n2 ∧
    rsg ((upI x i - downI x i) * ((2 ^ b : Nat) : Rat)) = n3 ∧ rsg ((upI x i - downI x i) * ((2 ^ b : Nat) : Rat) - makeRat 1 1) = n4 ∧ (c ≤ 0 → p ≤ 0 ∧ q ≤ 0) ∧ n1 ≤ 0 ∧ n2 ≤ 0 ∧ 0 ≤ n3 ∧ n4 ≤ 0 ∧ downI (downI x i) i = downI x i ∧ upI (downI x i) i = downI x i := by
  have hm : makeRat 1 1 = 1 := by unfold makeRat; grind
  obtain ⟨a1, a2, a3, a4, a5, a6, a7⟩ := near_facts x y i h0 h1
  refine ⟨i.toNat, _, _, _, _, _, _, _, by omega, by omega, rfl, rfl, rfl, rfl, rfl, rfl, rfl, a1, a2, a3, a4, ?_, a6, a7⟩
  rw [hm]; exact a5

theorem ok_canon (q : Rat) {w : World} {s : Bool} {ao bo : Option Addr} {n cap m cap' : Nat} (h : RatC w (.agg #[.bool s, .slice ao n cap, .slice bo m cap']) q) (hn : n ≤ 17179869184) (hm : m ≤ 17179869184) :
    Calls Tryz.prog 36 #[.agg #[.bool s, .slice ao n cap, .slice bo m cap']] w fun e w' => e = .returned (.bool true) ∧ Below w.heap.size w w' := by
  obtain ⟨rfl, h1, h2, hz, hz'⟩ := h.parts
  have := Valid_any (decide (q.num < 0)) (dig q.num.natAbs) (denL q) (lim_dig _) (lim_denL q) ao bo n m cap cap' w h1 h2 hz hz' hn hm
  rw [(canon_ok q).1] at this
  exact this

theorem ratC_sizes {w : World} {s : Bool} {ao bo : Option Addr} {n cap m cap' k : Nat} {q : Rat} (h : RatC w (.agg #[.bool s, .slice ao n cap, .slice bo m cap']) q) (hf : Fit k q) : n ≤ k ∧ m ≤ k := by
  obtain ⟨rfl, h1, h2, hz, hz'⟩ := h.parts
  exact ⟨by rw [← h1.lenU]; exact hf.1, by rw [← h2.lenU]; exact denL_len hf⟩

set_option maxHeartbeats 8000000 in
set_option maxRecDepth 100000 in
theorem walkNear (w : World) (hp : Pow w) (s : Bool) (N D : List Nat) (bo : Option Addr) (m ca : Nat) (co : Option Addr) (l cb : Nat) (hN1 : Sl w bo m ca (u32s N)) (hD1 : Sl w co l cb (u32s D)) (LN1 : Lim N) (LD1 : Lim D) (zb1 : bo = none → ca = 0) (zc1 : co = none → cb = 0) (t : Bool) (N2 D2 : List Nat) (bo2 : Option Addr) (m2 ca2 : Nat) (co2 : Option Addr) (l2 cb2 : Nat) (hN2 : Sl w bo2 m2 ca2 (u32s N2)) (hD2 : Sl w co2 l2 cb2 (u32s D2)) (LN2 : Lim N2) (LD2 : Lim D2) (zb2 : bo2 = none → ca2 = 0) (zc2 : co2 = none → cb2 = 0) (i : Int) {p : Prop} (_ : p) :
    Calls Tryz.prog 7 #[.agg #[.bool s, .slice bo m ca, .slice co l cb], .agg #[.bool t, .slice bo2 m2 ca2, .slice co2 l2 cb2], .int .i64 i] w fun e w' => e = .returned (.bool true) ∧ Below w.heap.size w w' := by
  have X : Bk w w.heap.size (.bool s) (.slice bo m ca) (.slice co l cb) ((w.alloc (.cells #[.bool s, .slice bo m ca, .slice co l cb] 24)).alloc (.cells #[.bool t, .slice bo2 m2 ca2, .slice co2 l2 cb2] 24)) := (Bk.start (Below.refl w.heap.size w) rfl (.bool s) (.slice bo m ca) (.slice co l cb) 24).new _
  have Y : Bk w (w.heap.size + 1) (.bool t) (.slice bo2 m2 ca2) (.slice co2 l2 cb2) ((w.alloc (.cells #[.bool s, .slice bo m ca, .slice co l cb] 24)).alloc (.cells #[.bool t, .slice bo2 m2 ca2, .slice co2 l2 cb2] 24)) := Bk.start (below_alloc _) (by simp) _ _ _ 24
  have HB := X.bel
  have hfair := fun W (hb : Below w.heap.size w W) => fair_any W s N D bo m ca co l cb (hN1.next hb) (hD1.next hb) LN1 LD1 zb1 zc1 t N2 D2 bo2 m2 ca2 co2 l2 cb2 (hN2.next hb) (hD2.next hb) LN2 LD2 zb2 zc2 s N D bo m ca co l cb (hN1.next hb) (hD1.next hb) LN1 LD1 zb1 zc1
  cases hF : fairB s N D m l t N2 D2 m2 l2 s N D m l with
  | false =>
    rw [hF] at hfair
    have HF := hid hfair
    clear hF hfair
    obtain ⟨x0, x1, x2⟩ := X.c3
    go_enter Tryz.func7, Tryz.ntmps7
    go_wp2_with fail
    refine (HF.out _ HB).mono ?_; rintro e' w1 ⟨rfl, hb1⟩
    clear x0 x1 x2
    replace X := X.next hb1
    replace Y := Y.next hb1
    replace HB := below_chain HB hb1
    clear hb1
    go_wp2_with fail
    refine (lawake_any _ (hp.next HB)).mono ?_; rintro e wq ⟨rfl, hbq⟩
    go_wp2_with fail
    go_ret
    exact ⟨rfl, below_chain HB hbq⟩
  | true =>
    rw [hF] at hfair
    obtain ⟨hL1, hL2, _, hV1, hV2, _⟩ := fairB_yes hF
    have HF := hid hfair
    obtain ⟨vX, fx⟩ := arg_V (s := s) hN1 hD1 LN1 LD1 zb1 zc1 hL1
    obtain ⟨vY, fy⟩ := arg_V (s := t) hN2 hD2 LN2 LD2 zb2 zc2 hL2
    generalize ratOf s N D = x at *
    generalize ratOf t N2 D2 = y at *
    clear hF hfair hL1 hL2 hV1 hV2 hN1 hD1 LN1 LD1 hN2 hD2 LN2 LD2
    by_cases hi0 : i < 0
    · obtain ⟨x0, x1, x2⟩ := X.c3
      go_enter Tryz.func7, Tryz.ntmps7
      go_wp2_with fail
      refine (HF.out _ HB).mono ?_; rintro e' w1 ⟨rfl, hb1⟩
      clear x0 x1 x2
      replace X := X.next hb1
      replace Y := Y.next hb1
      replace HB := below_chain HB hb1
      clear hb1
      go_wp2_with fail
      refine (lawake_any _ (hp.next HB)).mono ?_; rintro e wq ⟨rfl, hbq⟩
      go_wp2_with fail
      go_ret
      exact ⟨rfl, below_chain HB hbq⟩
    · by_cases hi1 : 256 < i
      · obtain ⟨x0, x1, x2⟩ := X.c3
        go_enter Tryz.func7, Tryz.ntmps7
        go_wp2_with fail
        refine (HF.out _ HB).mono ?_; rintro e' w1 ⟨rfl, hb1⟩
        clear x0 x1 x2
        replace X := X.next hb1
        replace Y := Y.next hb1
        replace HB := below_chain HB hb1
        clear hb1
        go_wp2_with fail
        refine (lawake_any _ (hp.next HB)).mono ?_; rintro e wq ⟨rfl, hbq⟩
        go_wp2_with fail
        go_ret
        exact ⟨rfl, below_chain HB hbq⟩
      · have hi0 : 0 ≤ i := by omega
        have hi1 : i ≤ 256 := by omega
        obtain ⟨b, c, pp, qq, n1, n2, n3, n4, hib, hb256, h1, h2, h3, h4, h5, h6, h7, i1, i2, i3, i4, i5, i6, i7⟩ := near_bits (x := x) (y := y) hi0 hi1
        have H1 := hid h1; have H2 := hid h2; have H3 := hid h3; have H4 := hid h4; have H5 := hid h5; have H6 := hid h6; have H7 := hid h7
        have I1 := hid i1; have I6 := hid i6; have I7 := hid i7
        have HIB := hid hib
        clear h1 h2 h3 h4 h5 h6 h7 i1 i6 i7 hib
        obtain ⟨x0, x1, x2⟩ := X.c3
        go_enter Tryz.func7, Tryz.ntmps7
        go_wp2_with fail
        refine (HF.out _ HB).mono ?_; rintro e' w1 ⟨rfl, hb1⟩
        clear x0 x1 x2
        replace X := X.next hb1
        replace Y := Y.next hb1
        replace HB := below_chain HB hb1
        clear hb1
        clear HF zb1 zc1 zb2 zc2
        go_upto_region 3 with fail
        go_cut [7, 8] (fun v7 v8 wx => TwoRat w (downI x i) (upI x i) (.bool s) (.slice bo m ca) (.slice co l cb) (.bool t) (.slice bo2 m2 ca2) (.slice co2 l2 cb2) v7 v8 wx)
        case first =>
          have h0 := X.c3
          have h0' := Y.c3
          have lt0 : w.heap.size + 1 < w1.heap.size := Y.lt
          have hbel := X.bel
          have hS0 : C3 w.heap.size (.bool s) (.slice bo m ca) (.slice co l cb) w1.drew ∧ C3 (w.heap.size + 1) (.bool t) (.slice bo2 m2 ca2) (.slice co2 l2 cb2) w1.drew ∧ Below w.heap.size w w1.drew ∧ w.heap.size + 1 < w1.drew.heap.size := ⟨X.drew.c3, Y.drew.c3, hbel.drew, lt0⟩
          have hSW : C3 w.heap.size (.bool s) (.slice bo m ca) (.slice co l cb) w1 ∧ C3 (w.heap.size + 1) (.bool t) (.slice bo2 m2 ca2) (.slice co2 l2 cb2) w1 ∧ Below w.heap.size w w1 ∧ w.heap.size + 1 < w1.heap.size := ⟨h0, h0', hbel, lt0⟩
          have hK : ∀ w' w'', (C3 w.heap.size (.bool s) (.slice bo m ca) (.slice co l cb) w' ∧ C3 (w.heap.size + 1) (.bool t) (.slice bo2 m2 ca2) (.slice co2 l2 cb2) w' ∧ Below w.heap.size w w' ∧ w.heap.size + 1 < w'.heap.size) → Below w'.heap.size w' w'' → (C3 w.heap.size (.bool s) (.slice bo m ca) (.slice co l cb) w'' ∧ C3 (w.heap.size + 1) (.bool t) (.slice bo2 m2 ca2) (.slice co2 l2 cb2) w'' ∧ Below w.heap.size w w'' ∧ w.heap.size + 1 < w''.heap.size) := fun w' w'' h hb => ⟨h.1.next hb, h.2.1.next hb, below_chain h.2.2.1 hb, Nat.lt_of_lt_of_le h.2.2.2 hb.size⟩
          have hSt : ∀ w' G (x' y' z' : Value), w.heap.size + 1 < G → (C3 w.heap.size (.bool s) (.slice bo m ca) (.slice co l cb) w' ∧ C3 (w.heap.size + 1) (.bool t) (.slice bo2 m2 ca2) (.slice co2 l2 cb2) w' ∧ Below w.heap.size w w' ∧ w.heap.size + 1 < w'.heap.size) → (C3 w.heap.size (.bool s) (.slice bo m ca) (.slice co l cb) (((w'.setCell ⟨G, 0, none⟩ x').setCell ⟨G, 1, none⟩ y').setCell ⟨G, 2, none⟩ z') ∧ C3 (w.heap.size + 1) (.bool t) (.slice bo2 m2 ca2) (.slice co2 l2 cb2) (((w'.setCell ⟨G, 0, none⟩ x').setCell ⟨G, 1, none⟩ y').setCell ⟨G, 2, none⟩ z') ∧ Below w.heap.size w (((w'.setCell ⟨G, 0, none⟩ x').setCell ⟨G, 1, none⟩ y').setCell ⟨G, 2, none⟩ z') ∧ w.heap.size + 1 < (((w'.setCell ⟨G, 0, none⟩ x').setCell ⟨G, 1, none⟩ y').setCell ⟨G, 2, none⟩ z').heap.size) :=
            fun w' G x' y' z' hG h => ⟨h.1.set3 (by omega) _ _ _, h.2.1.set3 (by omega) _ _ _, below_set3 h.2.2.1 (by omega) _ _ _, by rw [size_set3]; exact h.2.2.2⟩
          clear h0 h0' X Y HB
          go_region_held3 (fun w' => C3 w.heap.size (.bool s) (.slice bo m ca) (.slice co l cb) w' ∧ C3 (w.heap.size + 1) (.bool t) (.slice bo2 m2 ca2) (.slice co2 l2 cb2) w' ∧ Below w.heap.size w w' ∧ w.heap.size + 1 < w'.heap.size)
            (repeat (first | with_reducible refine hSt _ _ _ _ _ (by with_reducible first | exact lt0 | exact Nat.lt_succ_of_lt lt0 | exact lt1 | exact Nat.lt_succ_of_lt lt1 | exact lt2 | exact Nat.lt_succ_of_lt lt2) ?_ | with_reducible assumption | with_reducible refine hK _ _ ?_ (below_alloc _) | with_reducible refine hK _ _ ?_ hb1 | with_reducible refine hK _ _ ?_ hb2 | with_reducible refine hK _ _ ?_ (Below.refl _ _).drew))
            (first
              | (go_at_call 14; refine (Down_any x i _ _ (vX.next (show Below w.heap.size w _ from And.left (And.right (And.right (by assumption))))) 6 fx (by decide)).mono ?_; rintro e' wd ⟨f1, rfl, F1, hb1⟩; have lt1 := (hK _ wd (by assumption) hb1).2.2.2; obtain ⟨hc1, hf1⟩ := bcell hb1; have hz1 := hb1.size; (try simp at hz1); (try have hu1 := Nat.lt_of_succ_le hz1); (try have hy1 := Nat.lt_of_succ_lt hu1); obtain ⟨xs, xo, xn, xc, yo, yn, yc, rfl⟩ := F1.shape)
              | (go_at_call 16; refine (Up_any x i _ _ (vX.next (show Below w.heap.size w _ from And.left (And.right (And.right (by assumption))))) 6 fx (by decide)).mono ?_; rintro e' wu ⟨f2, rfl, F2, hb2⟩; have lt2 := (hK _ wu (by assumption) hb2).2.2.2; obtain ⟨hc2, hf2⟩ := bcell hb2; have hz2 := hb2.size; (try simp at hz2); (try have hu2 := Nat.lt_of_succ_le hz2); (try have hy2 := Nat.lt_of_succ_lt hu2); (try have hx2 := Nat.lt_of_lt_of_le hu1 (Nat.le_trans (by simp) hb2.size)); (try have hw2 := Nat.lt_of_lt_of_le hy1 (Nat.le_trans (by simp) hb2.size)); obtain ⟨zs, zo, zn, zc, uo, un, uc, rfl⟩ := F2.shape))
          all_goals
            go_wp2_with fail
            go_meet
            have hlt : ∀ x : Nat, w.heap.size + 1 < x → w.heap.size ≤ x := fun x h => by omega
            have sol : ∀ (X : World) (G : Nat), G = X.heap.size → Below w.heap.size w X → Res w G false none 0 0 none 0 0 (X.alloc (.cells #[.bool false, .slice none 0 0, .slice none 0 0] 24)) := fun X G e h => Res.startAt h e _ _ _ _ _ _ _ _
            refine ⟨_, _, xs, xo, xn, xc, yo, yn, yc, zs, zo, zn, zc, uo, un, uc, rfl, rfl, ?_, ?_, ?_, ?_, ?_, ?_, ?_⟩
            all_goals (repeat' (first | with_reducible exact F1 | with_reducible exact F2 | with_reducible exact hSW.1 | with_reducible exact hSW.2.1 | with_reducible exact hbel | with_reducible refine RatC.putOther (w := w) (b0 := false) (a1 := none) (n1 := 0) (k1 := 0) (a2 := none) (n2 := 0) (k2 := 0) ?_ ?_ _ _ _ | with_reducible refine RatC.new ?_ _ | with_reducible refine C3.stored (w := w) (b0 := false) (a1 := none) (n1 := 0) (k1 := 0) (a2 := none) (n2 := 0) (k2 := 0) ?_ _ _ _ | with_reducible refine C3.set3 ?_ ?_ _ _ _ | (with_reducible refine C3.here _ _ ?_; · simp) | with_reducible refine C3.new ?_ _ | with_reducible refine Res.other ?_ ?_ (hlt _ ?_) _ _ _ | (with_reducible refine sol _ _ ?_ ?_; · (with_reducible rfl)) | (with_reducible refine sol _ _ ?_ ?_; · simp) | with_reducible refine Res.new ?_ _ | with_reducible refine Res.drew ?_ | with_reducible exact hbel.drew | with_reducible refine below_set3 ?_ (hlt _ ?_) _ _ _ | with_reducible refine below_new ?_ _ | with_reducible refine Below.drew ?_ | with_reducible refine RatC.next ?_ hb2 | with_reducible refine C3.next ?_ hb2 | with_reducible refine C3.next ?_ hb1 | with_reducible refine C3.next ?_ (Below.refl _ _).drew | with_reducible refine Res.next ?_ hb2 | with_reducible refine Res.next ?_ hb1 | with_reducible refine below_chain ?_ hb2 | with_reducible refine below_chain ?_ hb1 | with_reducible exact lt0 | with_reducible exact Nat.lt_succ_of_lt lt0 | with_reducible exact lt1 | with_reducible exact Nat.lt_succ_of_lt lt1 | with_reducible exact lt2 | with_reducible exact Nat.lt_succ_of_lt lt2 | omega))
        case rest =>
          clear X Y HB
          obtain ⟨gA, gB, xs, xo, xn, xc, yo, yn, yc, zs, zo, zn, zc, uo, un, uc, rfl, rfl, KD, KU, CD, CU, KX, KY, HB⟩ := hcut
          have fd := fit_downI fx i
          have fu := fit_upI fx i
          have fs := fit_sub fu fd
          obtain ⟨d0, d1, d2⟩ := KD
          obtain ⟨u0, u1, u2⟩ := KU
          go_wp2_with fail
          refine (Sub_any (upI x i) (downI x i) _ _ _ (CU.toV fu (by decide)) (CD.toV fd (by decide)) 25 fu fd (by decide)).mono ?_; rintro e' w4 ⟨v4, rfl, CS, hb4⟩
          have KD : C3 gA (.bool xs) (.slice xo xn xc) (.slice yo yn yc) wc := ⟨d0, d1, d2⟩
          have KU : C3 gB (.bool zs) (.slice zo zn zc) (.slice uo un uc) wc := ⟨u0, u1, u2⟩
          clear d0 d1 d2 u0 u1 u2
          replace KD := KD.next hb4
          replace KU := KU.next hb4
          replace CD := CD.next hb4
          replace CU := CU.next hb4
          replace KX := KX.next hb4
          replace KY := KY.next hb4
          replace HB := below_chain HB hb4
          clear hb4
          go_wp2_with fail
          refine (rTwo_any i b HIB.out hb256 _).mono ?_; rintro e' w5 ⟨v5, rfl, CT, hb5⟩
          replace KD := KD.next hb5
          replace KU := KU.next hb5
          replace CD := CD.next hb5
          replace CU := CU.next hb5
          replace KX := KX.next hb5
          replace KY := KY.next hb5
          replace CS := CS.next hb5
          replace HB := below_chain HB hb5
          clear hb5
          go_wp2_with fail
          refine (Mul_any (upI x i - downI x i) ((2 ^ b : Nat) : Rat) _ _ _ (CS.toV fs (by decide)) (CT.toV (fit_pow hb256) (by decide)) 51 fs ((fit_pow hb256).mono (by decide)) (by decide)).mono ?_; rintro e' w6 ⟨v6, rfl, CG, hb6⟩
          have fg := fit_mul fs (fit_pow hb256)
          clear CT CS
          obtain ⟨rb, ro, rn, rc, so, sn, sc, rfl⟩ := CG.shape
          replace KD := KD.next hb6
          replace KU := KU.next hb6
          replace CD := CD.next hb6
          replace CU := CU.next hb6
          replace KX := KX.next hb6
          replace KY := KY.next hb6
          replace HB := below_chain HB hb6
          clear hb6
          have hb7 : Below w6.heap.size w6 (w6.alloc (.cells #[.bool rb, .slice ro rn rc, .slice so sn sc] 24)) := below_alloc _
          have G := Bk.start HB rfl (.bool rb) (.slice ro rn rc) (.slice so sn sc) 24
          have KG := G.c3
          clear G
          replace KD := KD.next hb7
          replace KU := KU.next hb7
          replace CD := CD.next hb7
          replace CU := CU.next hb7
          replace KX := KX.next hb7
          replace KY := KY.next hb7
          replace CG := CG.next hb7
          replace HB := below_chain HB hb7
          clear hb7
          go_upto_region 5 with fail
          generalize w6.alloc (.cells #[.bool rb, .slice ro rn rc, .slice so sn sc] 24) = W at *
          go_cut [55] (fun v wx => v = .bool false ∧ (C3 w.heap.size (.bool s) (.slice bo m ca) (.slice co l cb) wx ∧ C3 (w.heap.size + 1) (.bool t) (.slice bo2 m2 ca2) (.slice co2 l2 cb2) wx ∧ C3 gA (.bool xs) (.slice xo xn xc) (.slice yo yn yc) wx ∧ C3 gB (.bool zs) (.slice zo zn zc) (.slice uo un uc) wx ∧ C3 w6.heap.size (.bool rb) (.slice ro rn rc) (.slice so sn sc) wx) ∧ RatC wx (.agg #[.bool xs, .slice xo xn xc, .slice yo yn yc]) (downI x i) ∧ RatC wx (.agg #[.bool zs, .slice zo zn zc, .slice uo un uc]) (upI x i) ∧ RatC wx (.agg #[.bool rb, .slice ro rn rc, .slice so sn sc]) ((upI x i - downI x i) * ((2 ^ b : Nat) : Rat)) ∧ Below w.heap.size w wx)
          case first =>
            have hd := (Below.refl W.heap.size W).drew
            have hS0 : C3 w.heap.size (.bool s) (.slice bo m ca) (.slice co l cb) W.drew ∧ C3 (w.heap.size + 1) (.bool t) (.slice bo2 m2 ca2) (.slice co2 l2 cb2) W.drew ∧ C3 gA (.bool xs) (.slice xo xn xc) (.slice yo yn yc) W.drew ∧ C3 gB (.bool zs) (.slice zo zn zc) (.slice uo un uc) W.drew ∧ C3 w6.heap.size (.bool rb) (.slice ro rn rc) (.slice so sn sc) W.drew := ⟨KX.next hd, KY.next hd, KD.next hd, KU.next hd, KG.next hd⟩
            have hKp : ∀ w' w'', (C3 w.heap.size (.bool s) (.slice bo m ca) (.slice co l cb) w' ∧ C3 (w.heap.size + 1) (.bool t) (.slice bo2 m2 ca2) (.slice co2 l2 cb2) w' ∧ C3 gA (.bool xs) (.slice xo xn xc) (.slice yo yn yc) w' ∧ C3 gB (.bool zs) (.slice zo zn zc) (.slice uo un uc) w' ∧ C3 w6.heap.size (.bool rb) (.slice ro rn rc) (.slice so sn sc) w') → Below w'.heap.size w' w'' → (C3 w.heap.size (.bool s) (.slice bo m ca) (.slice co l cb) w'' ∧ C3 (w.heap.size + 1) (.bool t) (.slice bo2 m2 ca2) (.slice co2 l2 cb2) w'' ∧ C3 gA (.bool xs) (.slice xo xn xc) (.slice yo yn yc) w'' ∧ C3 gB (.bool zs) (.slice zo zn zc) (.slice uo un uc) w'' ∧ C3 w6.heap.size (.bool rb) (.slice ro rn rc) (.slice so sn sc) w'') := fun w' w'' h hb => ⟨h.1.next hb, h.2.1.next hb, h.2.2.1.next hb, h.2.2.2.1.next hb, h.2.2.2.2.next hb⟩
            have VX := vX.next HB
            have VY := vY.next HB
            clear KX KY KD KU KG
            replace VX := VX.next hd
            replace VY := VY.next hd
            replace CD := CD.next hd
            replace CU := CU.next hd
            replace CG := CG.next hd
            replace HB := HB.trans (hd.mono HB.size)
            by_cases hc : c ≤ 0
            · obtain ⟨hp0, hq0⟩ := I1.out hc
              have e0 : decide (c ≤ 0) = true := decide_eq_true hc
              have e1 : decide (0 < pp) = false := decide_eq_false (by omega)
              have e2 : decide (0 < qq) = false := decide_eq_false (by omega)
              clear hp0 hq0 hc
              refine wp_region_held_drew (S := (fun w' => C3 w.heap.size (.bool s) (.slice bo m ca) (.slice co l cb) w' ∧ C3 (w.heap.size + 1) (.bool t) (.slice bo2 m2 ca2) (.slice co2 l2 cb2) w' ∧ C3 gA (.bool xs) (.slice xo xn xc) (.slice yo yn yc) w' ∧ C3 gB (.bool zs) (.slice zo zn zc) (.slice uo un uc) w' ∧ C3 w6.heap.size (.bool rb) (.slice ro rn rc) (.slice so sn sc) w')) (by kernel_rfl) (hS0) (fun hHeld => ?_)
              refine held_take (i := 0) (d := 36) (v := ?_) rfl rfl (by kernel_rfl) (by kernel_rfl) (by kernel_rfl) (fun _ _ _ h => h) (by rfl) ?_ hHeld ?_
              rotate_left
              · intro w hSw; (try dsimp only at hSw); go_simp; with_reducible rfl
              try simp only [Act.put, List.setIfInBounds_toArray, List.set_cons_zero, List.set_cons_succ]
              refine held_take (i := 1) (d := 37) (v := ?_) rfl rfl (by kernel_rfl) (by kernel_rfl) (by kernel_rfl) (fun _ _ _ h => h) (by rfl) ?_ hHeld ?_
              rotate_left
              · intro w hSw; (try dsimp only at hSw); go_simp; with_reducible rfl
              try simp only [Act.put, List.setIfInBounds_toArray, List.set_cons_zero, List.set_cons_succ]
              refine wpAnyH_ready (rs := [2]) (by kernel_rfl) (by simp) (AllReadyH.cons rfl (fun K hK => ?_) AllReadyH.nil)
              go_simp
              go_at_call 35
              refine (Compare_any x y _ _ _ VX VY 6 fx fy (by decide)).mono ?_; rw [H1.out]; rintro e' wx1 ⟨rfl, hb1⟩
              replace VX := VX.next hb1
              replace VY := VY.next hb1
              replace CD := CD.next hb1
              replace CU := CU.next hb1
              replace CG := CG.next hb1
              replace HB := below_chain HB hb1
              go_wp2_with fail
              refine hK.out _ _ (hKp _ _ hHeld hb1) (fun hHeld => ?_)
              clear hK K hb1
              try simp only [Act.put, List.setIfInBounds_toArray, List.set_cons_zero, List.set_cons_succ]
              refine held_take (i := 3) (d := 39) (v := ?_) rfl rfl (by kernel_rfl) (by kernel_rfl) (by kernel_rfl) (fun _ _ _ h => h) (by rfl) ?_ hHeld ?_
              rotate_left
              · intro w hSw; (try dsimp only at hSw); go_simp; with_reducible rfl
              try simp only [Act.put, List.setIfInBounds_toArray, List.set_cons_zero, List.set_cons_succ]
              refine held_take (i := 4) (d := 40) (v := ?_) rfl rfl (by kernel_rfl) (by kernel_rfl) (by kernel_rfl) (fun _ _ _ h => h) (by rfl) ?_ hHeld ?_
              rotate_left
              · intro w hSw; (try dsimp only at hSw); go_simp; with_reducible rfl
              try simp only [Act.put, List.setIfInBounds_toArray, List.set_cons_zero, List.set_cons_succ]
              refine held_take (i := 5) (d := 41) (v := ?_) rfl rfl (by kernel_rfl) (by kernel_rfl) (by kernel_rfl) (fun _ _ _ h => h) (by rfl) ?_ hHeld ?_
              rotate_left
              · intro w hSw; (try dsimp only at hSw); go_simp; with_reducible rfl
              try simp only [Act.put, List.setIfInBounds_toArray, List.set_cons_zero, List.set_cons_succ]
              refine held_take (i := 6) (d := 42) (v := ?_) rfl rfl (by kernel_rfl) (by kernel_rfl) (by kernel_rfl) (fun _ _ _ h => h) (by rfl) ?_ hHeld ?_
              rotate_left
              · intro w hSw; (try dsimp only at hSw); go_simp; with_reducible rfl
              try simp only [Act.put, List.setIfInBounds_toArray, List.set_cons_zero, List.set_cons_succ]
              refine held_take (i := 7) (d := 43) (v := ?_) rfl rfl (by kernel_rfl) (by kernel_rfl) (by kernel_rfl) (fun _ _ _ h => h) (by rfl) ?_ hHeld ?_
              rotate_left
              · intro w hSw; (try dsimp only at hSw); go_simp; with_reducible rfl
              try simp only [Act.put, List.setIfInBounds_toArray, List.set_cons_zero, List.set_cons_succ]
              refine wpAnyH_ready (rs := [8]) (by kernel_rfl) (by simp) (AllReadyH.cons rfl (fun K hK => ?_) AllReadyH.nil)
              go_simp
              go_at_call 14
              refine (Down_any y i _ _ VY 6 fy (by decide)).mono ?_; rintro e' wx2 ⟨v2, rfl, C2, hb2⟩
              have f2 : Fit 25 (downI y i) := fit_downI fy i
              replace VX := VX.next hb2
              replace VY := VY.next hb2
              replace CD := CD.next hb2
              replace CU := CU.next hb2
              replace CG := CG.next hb2
              replace HB := below_chain HB hb2
              go_wp2_with fail
              refine hK.out _ _ (hKp _ _ hHeld hb2) (fun hHeld => ?_)
              clear hK K hb2
              try simp only [Act.put, List.setIfInBounds_toArray, List.set_cons_zero, List.set_cons_succ]
              refine wpAnyH_ready (rs := [9]) (by kernel_rfl) (by simp) (AllReadyH.cons rfl (fun K hK => ?_) AllReadyH.nil)
              go_simp
              go_at_call 35
              refine (Compare_any (downI x i) (downI y i) _ _ _ (CD.toV fd (by decide)) (C2.toV f2 (by decide)) 25 fd f2 (by decide)).mono ?_; rw [H2.out]; rintro e' wx3 ⟨rfl, hb3⟩
              replace VX := VX.next hb3
              replace VY := VY.next hb3
              replace CD := CD.next hb3
              replace CU := CU.next hb3
              replace CG := CG.next hb3
              replace C2 := C2.next hb3
              replace HB := below_chain HB hb3
              go_wp2_with fail
              refine hK.out _ _ (hKp _ _ hHeld hb3) (fun hHeld => ?_)
              clear hK K hb3
              try simp only [Act.put, List.setIfInBounds_toArray, List.set_cons_zero, List.set_cons_succ]
              refine held_take (i := 10) (d := 46) (v := ?_) rfl rfl (by kernel_rfl) (by kernel_rfl) (by kernel_rfl) (fun _ _ _ h => h) (by rfl) ?_ hHeld ?_
              rotate_left
              · intro w hSw; (try dsimp only at hSw); go_simp; with_reducible rfl
              try simp only [Act.put, List.setIfInBounds_toArray, List.set_cons_zero, List.set_cons_succ]
              refine held_take (i := 11) (d := 47) (v := ?_) rfl rfl (by kernel_rfl) (by kernel_rfl) (by kernel_rfl) (fun _ _ _ h => h) (by rfl) ?_ hHeld ?_
              rotate_left
              · intro w hSw; (try dsimp only at hSw); go_simp; with_reducible rfl
              try simp only [Act.put, List.setIfInBounds_toArray, List.set_cons_zero, List.set_cons_succ]
              refine held_take (i := 12) (d := 48) (v := ?_) rfl rfl (by kernel_rfl) (by kernel_rfl) (by kernel_rfl) (fun _ _ _ h => h) (by rfl) ?_ hHeld ?_
              rotate_left
              · intro w hSw; (try dsimp only at hSw); go_simp; with_reducible rfl
              try simp only [Act.put, List.setIfInBounds_toArray, List.set_cons_zero, List.set_cons_succ]
              refine held_take (i := 13) (d := 49) (v := ?_) rfl rfl (by kernel_rfl) (by kernel_rfl) (by kernel_rfl) (fun _ _ _ h => h) (by rfl) ?_ hHeld ?_
              rotate_left
              · intro w hSw; (try dsimp only at hSw); go_simp; with_reducible rfl
              try simp only [Act.put, List.setIfInBounds_toArray, List.set_cons_zero, List.set_cons_succ]
              refine held_take (i := 14) (d := 50) (v := ?_) rfl rfl (by kernel_rfl) (by kernel_rfl) (by kernel_rfl) (fun _ _ _ h => h) (by rfl) ?_ hHeld ?_
              rotate_left
              · intro w hSw; (try dsimp only at hSw); go_simp; with_reducible rfl
              try simp only [Act.put, List.setIfInBounds_toArray, List.set_cons_zero, List.set_cons_succ]
              refine wpAnyH_ready (rs := [15]) (by kernel_rfl) (by simp) (AllReadyH.cons rfl (fun K hK => ?_) AllReadyH.nil)
              go_simp
              go_at_call 16
              refine (Up_any y i _ _ VY 6 fy (by decide)).mono ?_; rintro e' wx4 ⟨v4, rfl, C4, hb4⟩
              have f4 : Fit 25 (upI y i) := fit_upI fy i
              replace VX := VX.next hb4
              replace VY := VY.next hb4
              replace CD := CD.next hb4
              replace CU := CU.next hb4
              replace CG := CG.next hb4
              replace C2 := C2.next hb4
              replace HB := below_chain HB hb4
              go_wp2_with fail
              refine hK.out _ _ (hKp _ _ hHeld hb4) (fun hHeld => ?_)
              clear hK K hb4
              try simp only [Act.put, List.setIfInBounds_toArray, List.set_cons_zero, List.set_cons_succ]
              refine wpAnyH_ready (rs := [16]) (by kernel_rfl) (by simp) (AllReadyH.cons rfl (fun K hK => ?_) AllReadyH.nil)
              go_simp
              go_at_call 35
              refine (Compare_any (upI x i) (upI y i) _ _ _ (CU.toV fu (by decide)) (C4.toV f4 (by decide)) 25 fu f4 (by decide)).mono ?_; rw [H3.out]; rintro e' wx5 ⟨rfl, hb5⟩
              replace VX := VX.next hb5
              replace VY := VY.next hb5
              replace CD := CD.next hb5
              replace CU := CU.next hb5
              replace CG := CG.next hb5
              replace C2 := C2.next hb5
              replace C4 := C4.next hb5
              replace HB := below_chain HB hb5
              go_wp2_with fail
              refine hK.out _ _ (hKp _ _ hHeld hb5) (fun hHeld => ?_)
              clear hK K hb5
              try simp only [Act.put, List.setIfInBounds_toArray, List.set_cons_zero, List.set_cons_succ]
              refine held_take (i := 17) (d := 53) (v := ?_) rfl rfl (by kernel_rfl) (by kernel_rfl) (by kernel_rfl) (fun _ _ _ h => h) (by rfl) ?_ hHeld ?_
              rotate_left
              · intro w hSw; (try dsimp only at hSw); go_simp; with_reducible rfl
              try simp only [Act.put, List.setIfInBounds_toArray, List.set_cons_zero, List.set_cons_succ]
              refine held_take (i := 18) (d := 54) (v := ?_) rfl rfl (by kernel_rfl) (by kernel_rfl) (by kernel_rfl) (fun _ _ _ h => h) (by rfl) ?_ hHeld ?_
              rotate_left
              · intro w hSw; (try dsimp only at hSw); go_simp; with_reducible rfl
              try simp only [Act.put, List.setIfInBounds_toArray, List.set_cons_zero, List.set_cons_succ]
              refine held_take (i := 19) (d := 55) (v := ?_) rfl rfl (by kernel_rfl) (by kernel_rfl) (by kernel_rfl) (fun _ _ _ h => h) (by rfl) ?_ hHeld ?_
              rotate_left
              · intro w hSw; (try dsimp only at hSw); go_simp; with_reducible rfl
              try simp only [Act.put, List.setIfInBounds_toArray, List.set_cons_zero, List.set_cons_succ]
              refine wpAnyH_done (by kernel_rfl) ?_ _
              go_wp2_with fail
              go_meet
              exact ⟨rfl, hHeld, CD, CU, CG, HB⟩
            · have e0 : decide (c ≤ 0) = false := decide_eq_false hc
              clear hc
              refine wp_region_held_drew (S := (fun w' => C3 w.heap.size (.bool s) (.slice bo m ca) (.slice co l cb) w' ∧ C3 (w.heap.size + 1) (.bool t) (.slice bo2 m2 ca2) (.slice co2 l2 cb2) w' ∧ C3 gA (.bool xs) (.slice xo xn xc) (.slice yo yn yc) w' ∧ C3 gB (.bool zs) (.slice zo zn zc) (.slice uo un uc) w' ∧ C3 w6.heap.size (.bool rb) (.slice ro rn rc) (.slice so sn sc) w')) (by kernel_rfl) (hS0) (fun hHeld => ?_)
              refine held_take (i := 0) (d := 36) (v := ?_) rfl rfl (by kernel_rfl) (by kernel_rfl) (by kernel_rfl) (fun _ _ _ h => h) (by rfl) ?_ hHeld ?_
              rotate_left
              · intro w hSw; (try dsimp only at hSw); go_simp; with_reducible rfl
              try simp only [Act.put, List.setIfInBounds_toArray, List.set_cons_zero, List.set_cons_succ]
              refine held_take (i := 1) (d := 37) (v := ?_) rfl rfl (by kernel_rfl) (by kernel_rfl) (by kernel_rfl) (fun _ _ _ h => h) (by rfl) ?_ hHeld ?_
              rotate_left
              · intro w hSw; (try dsimp only at hSw); go_simp; with_reducible rfl
              try simp only [Act.put, List.setIfInBounds_toArray, List.set_cons_zero, List.set_cons_succ]
              refine wpAnyH_ready (rs := [2]) (by kernel_rfl) (by simp) (AllReadyH.cons rfl (fun K hK => ?_) AllReadyH.nil)
              go_simp
              go_at_call 35
              refine (Compare_any x y _ _ _ VX VY 6 fx fy (by decide)).mono ?_; rw [H1.out]; rintro e' wx1 ⟨rfl, hb1⟩
              replace VX := VX.next hb1
              replace VY := VY.next hb1
              replace CD := CD.next hb1
              replace CU := CU.next hb1
              replace CG := CG.next hb1
              replace HB := below_chain HB hb1
              go_wp2_with fail
              refine hK.out _ _ (hKp _ _ hHeld hb1) (fun hHeld => ?_)
              clear hK K hb1
              try simp only [Act.put, List.setIfInBounds_toArray, List.set_cons_zero, List.set_cons_succ]
              refine held_take (i := 3) (d := 39) (v := ?_) rfl rfl (by kernel_rfl) (by kernel_rfl) (by kernel_rfl) (fun _ _ _ h => h) (by rfl) ?_ hHeld ?_
              rotate_left
              · intro w hSw; (try dsimp only at hSw); go_simp; with_reducible rfl
              try simp only [Act.put, List.setIfInBounds_toArray, List.set_cons_zero, List.set_cons_succ]
              refine held_take (i := 4) (d := 40) (v := ?_) rfl rfl (by kernel_rfl) (by kernel_rfl) (by kernel_rfl) (fun _ _ _ h => h) (by rfl) ?_ hHeld ?_
              rotate_left
              · intro w hSw; (try dsimp only at hSw); go_simp; with_reducible rfl
              try simp only [Act.put, List.setIfInBounds_toArray, List.set_cons_zero, List.set_cons_succ]
              refine held_skip (i := 5) (d := 41) rfl rfl (by kernel_rfl) (by kernel_rfl) (by kernel_rfl) (fun _ _ _ h => h) (by rfl) hHeld ?_
              try simp only [Act.put, List.setIfInBounds_toArray, List.set_cons_zero, List.set_cons_succ]
              refine held_skip (i := 6) (d := 42) rfl rfl (by kernel_rfl) (by kernel_rfl) (by kernel_rfl) (fun _ _ _ h => h) (by rfl) hHeld ?_
              try simp only [Act.put, List.setIfInBounds_toArray, List.set_cons_zero, List.set_cons_succ]
              refine held_skip (i := 7) (d := 43) rfl rfl (by kernel_rfl) (by kernel_rfl) (by kernel_rfl) (fun _ _ _ h => h) (by rfl) hHeld ?_
              try simp only [Act.put, List.setIfInBounds_toArray, List.set_cons_zero, List.set_cons_succ]
              refine held_skip (i := 8) (d := 44) rfl rfl (by kernel_rfl) (by kernel_rfl) (by kernel_rfl) (fun _ _ _ h => h) (by rfl) hHeld ?_
              try simp only [Act.put, List.setIfInBounds_toArray, List.set_cons_zero, List.set_cons_succ]
              refine held_skip (i := 9) (d := 45) rfl rfl (by kernel_rfl) (by kernel_rfl) (by kernel_rfl) (fun _ _ _ h => h) (by rfl) hHeld ?_
              try simp only [Act.put, List.setIfInBounds_toArray, List.set_cons_zero, List.set_cons_succ]
              refine held_skip (i := 10) (d := 46) rfl rfl (by kernel_rfl) (by kernel_rfl) (by kernel_rfl) (fun _ _ _ h => h) (by rfl) hHeld ?_
              try simp only [Act.put, List.setIfInBounds_toArray, List.set_cons_zero, List.set_cons_succ]
              refine held_skip (i := 11) (d := 47) rfl rfl (by kernel_rfl) (by kernel_rfl) (by kernel_rfl) (fun _ _ _ h => h) (by rfl) hHeld ?_
              try simp only [Act.put, List.setIfInBounds_toArray, List.set_cons_zero, List.set_cons_succ]
              refine held_skip (i := 12) (d := 48) rfl rfl (by kernel_rfl) (by kernel_rfl) (by kernel_rfl) (fun _ _ _ h => h) (by rfl) hHeld ?_
              try simp only [Act.put, List.setIfInBounds_toArray, List.set_cons_zero, List.set_cons_succ]
              refine held_skip (i := 13) (d := 49) rfl rfl (by kernel_rfl) (by kernel_rfl) (by kernel_rfl) (fun _ _ _ h => h) (by rfl) hHeld ?_
              try simp only [Act.put, List.setIfInBounds_toArray, List.set_cons_zero, List.set_cons_succ]
              refine held_skip (i := 14) (d := 50) rfl rfl (by kernel_rfl) (by kernel_rfl) (by kernel_rfl) (fun _ _ _ h => h) (by rfl) hHeld ?_
              try simp only [Act.put, List.setIfInBounds_toArray, List.set_cons_zero, List.set_cons_succ]
              refine held_skip (i := 15) (d := 51) rfl rfl (by kernel_rfl) (by kernel_rfl) (by kernel_rfl) (fun _ _ _ h => h) (by rfl) hHeld ?_
              try simp only [Act.put, List.setIfInBounds_toArray, List.set_cons_zero, List.set_cons_succ]
              refine held_skip (i := 16) (d := 52) rfl rfl (by kernel_rfl) (by kernel_rfl) (by kernel_rfl) (fun _ _ _ h => h) (by rfl) hHeld ?_
              try simp only [Act.put, List.setIfInBounds_toArray, List.set_cons_zero, List.set_cons_succ]
              refine held_skip (i := 17) (d := 53) rfl rfl (by kernel_rfl) (by kernel_rfl) (by kernel_rfl) (fun _ _ _ h => h) (by rfl) hHeld ?_
              try simp only [Act.put, List.setIfInBounds_toArray, List.set_cons_zero, List.set_cons_succ]
              refine held_skip (i := 18) (d := 54) rfl rfl (by kernel_rfl) (by kernel_rfl) (by kernel_rfl) (fun _ _ _ h => h) (by rfl) hHeld ?_
              try simp only [Act.put, List.setIfInBounds_toArray, List.set_cons_zero, List.set_cons_succ]
              refine held_take (i := 19) (d := 55) (v := ?_) rfl rfl (by kernel_rfl) (by kernel_rfl) (by kernel_rfl) (fun _ _ _ h => h) (by rfl) ?_ hHeld ?_
              rotate_left
              · intro w hSw; (try dsimp only at hSw); go_simp; with_reducible rfl
              try simp only [Act.put, List.setIfInBounds_toArray, List.set_cons_zero, List.set_cons_succ]
              refine wpAnyH_done (by kernel_rfl) ?_ _
              go_wp2_with fail
              go_meet
              exact ⟨rfl, hHeld, CD, CU, CG, HB⟩
          case rest =>
            clear KX KY KD KU KG CD CU CG HB
            obtain ⟨rfl, ⟨KX, KY, KD, KU, KG⟩, CD, CU, CG, HB⟩ := hcut
            obtain ⟨szd1, szd2⟩ := ratC_sizes CD fd
            obtain ⟨szu1, szu2⟩ := ratC_sizes CU fu
            have VX := vX.next HB
            have HP := hp.next HB
            have hone : Fit 1 (makeRat 1 1) := by
              have : makeRat 1 1 = 1 := by unfold makeRat; grind
              rw [this]; exact fit_one (by decide)
            have J6 := I6.out
            have J7 := I7.out
            have e1 : decide (n1 ≤ 0) = true := decide_eq_true i2
            have e2 : decide (n2 ≤ 0) = true := decide_eq_true i3
            have e3 : decide (0 ≤ n3) = true := decide_eq_true i4
            have e4 : decide (n4 ≤ 0) = true := decide_eq_true i5
            have J6 := hid J6
            have J7 := hid J7
            go_upto_region 7 with fail
            have hd := (Below.refl wc.heap.size wc).drew
            have hS0 : C3 w.heap.size (.bool s) (.slice bo m ca) (.slice co l cb) wc.drew ∧ C3 gA (.bool xs) (.slice xo xn xc) (.slice yo yn yc) wc.drew ∧ C3 gB (.bool zs) (.slice zo zn zc) (.slice uo un uc) wc.drew ∧ C3 w6.heap.size (.bool rb) (.slice ro rn rc) (.slice so sn sc) wc.drew := ⟨KX.next hd, KD.next hd, KU.next hd, KG.next hd⟩
            have hKp : ∀ w' w'', (C3 w.heap.size (.bool s) (.slice bo m ca) (.slice co l cb) w' ∧ C3 gA (.bool xs) (.slice xo xn xc) (.slice yo yn yc) w' ∧ C3 gB (.bool zs) (.slice zo zn zc) (.slice uo un uc) w' ∧ C3 w6.heap.size (.bool rb) (.slice ro rn rc) (.slice so sn sc) w') → Below w'.heap.size w' w'' → (C3 w.heap.size (.bool s) (.slice bo m ca) (.slice co l cb) w'' ∧ C3 gA (.bool xs) (.slice xo xn xc) (.slice yo yn yc) w'' ∧ C3 gB (.bool zs) (.slice zo zn zc) (.slice uo un uc) w'' ∧ C3 w6.heap.size (.bool rb) (.slice ro rn rc) (.slice so sn sc) w'') := fun w' w'' h hb => ⟨h.1.next hb, h.2.1.next hb, h.2.2.1.next hb, h.2.2.2.next hb⟩
            clear KX KY KD KU KG hp vX vY
            replace VX := VX.next hd
            replace HP := HP.next hd
            replace CD := CD.next hd
            replace CU := CU.next hd
            replace CG := CG.next hd
            replace HB := HB.trans (hd.mono HB.size)
            refine wp_region_held_drew (S := (fun w' => C3 w.heap.size (.bool s) (.slice bo m ca) (.slice co l cb) w' ∧ C3 gA (.bool xs) (.slice xo xn xc) (.slice yo yn yc) w' ∧ C3 gB (.bool zs) (.slice zo zn zc) (.slice uo un uc) w' ∧ C3 w6.heap.size (.bool rb) (.slice ro rn rc) (.slice so sn sc) w')) (by kernel_rfl) (hS0) (fun hHeld => ?_)
            refine wpAnyH_ready (rs := [0]) (by kernel_rfl) (by simp) (AllReadyH.cons rfl (fun K hK => ?_) AllReadyH.nil)
            go_simp
            go_at_call 12
            refine (lawake_any _ HP).mono ?_; rintro e' wx1 ⟨rfl, hb1⟩
            replace VX := VX.next hb1
            replace HP := HP.next hb1
            replace CD := CD.next hb1
            replace CU := CU.next hb1
            replace CG := CG.next hb1
            replace HB := below_chain HB hb1
            go_wp2_with fail
            refine hK.out _ _ (hKp _ _ hHeld hb1) (fun hHeld => ?_)
            clear hK K hb1
            try simp only [Act.put, List.setIfInBounds_toArray, List.set_cons_zero, List.set_cons_succ]
            refine held_take (i := 1) (d := 57) (v := ?_) rfl rfl (by kernel_rfl) (by kernel_rfl) (by kernel_rfl) (fun _ _ _ h => h) (by rfl) ?_ hHeld ?_
            rotate_left
            · intro w hSw; (try dsimp only at hSw); go_simp; with_reducible rfl
            try simp only [Act.put, List.setIfInBounds_toArray, List.set_cons_zero, List.set_cons_succ]
            refine held_take (i := 2) (d := 58) (v := ?_) rfl rfl (by kernel_rfl) (by kernel_rfl) (by kernel_rfl) (fun _ _ _ h => h) (by rfl) ?_ hHeld ?_
            rotate_left
            · intro w hSw; (try dsimp only at hSw); go_simp; with_reducible rfl
            try simp only [Act.put, List.setIfInBounds_toArray, List.set_cons_zero, List.set_cons_succ]
            refine wpAnyH_ready (rs := [3]) (by kernel_rfl) (by simp) (AllReadyH.cons rfl (fun K hK => ?_) AllReadyH.nil)
            go_simp
            go_at_call 36
            refine (ok_canon (downI x i) CD (by omega) (by omega)).mono ?_; rintro e' wx2 ⟨rfl, hb2⟩
            replace VX := VX.next hb2
            replace HP := HP.next hb2
            replace CD := CD.next hb2
            replace CU := CU.next hb2
            replace CG := CG.next hb2
            replace HB := below_chain HB hb2
            go_wp2_with fail
            refine hK.out _ _ (hKp _ _ hHeld hb2) (fun hHeld => ?_)
            clear hK K hb2
            try simp only [Act.put, List.setIfInBounds_toArray, List.set_cons_zero, List.set_cons_succ]
            refine held_take (i := 4) (d := 60) (v := ?_) rfl rfl (by kernel_rfl) (by kernel_rfl) (by kernel_rfl) (fun _ _ _ h => h) (by rfl) ?_ hHeld ?_
            rotate_left
            · intro w hSw; (try dsimp only at hSw); go_simp; with_reducible rfl
            try simp only [Act.put, List.setIfInBounds_toArray, List.set_cons_zero, List.set_cons_succ]
            refine held_take (i := 5) (d := 61) (v := ?_) rfl rfl (by kernel_rfl) (by kernel_rfl) (by kernel_rfl) (fun _ _ _ h => h) (by rfl) ?_ hHeld ?_
            rotate_left
            · intro w hSw; (try dsimp only at hSw); go_simp; with_reducible rfl
            try simp only [Act.put, List.setIfInBounds_toArray, List.set_cons_zero, List.set_cons_succ]
            refine held_take (i := 6) (d := 62) (v := ?_) rfl rfl (by kernel_rfl) (by kernel_rfl) (by kernel_rfl) (fun _ _ _ h => h) (by rfl) ?_ hHeld ?_
            rotate_left
            · intro w hSw; (try dsimp only at hSw); go_simp; with_reducible rfl
            try simp only [Act.put, List.setIfInBounds_toArray, List.set_cons_zero, List.set_cons_succ]
            refine wpAnyH_ready (rs := [7]) (by kernel_rfl) (by simp) (AllReadyH.cons rfl (fun K hK => ?_) AllReadyH.nil)
            go_simp
            go_at_call 36
            refine (ok_canon (upI x i) CU (by omega) (by omega)).mono ?_; rintro e' wx3 ⟨rfl, hb3⟩
            replace VX := VX.next hb3
            replace HP := HP.next hb3
            replace CD := CD.next hb3
            replace CU := CU.next hb3
            replace CG := CG.next hb3
            replace HB := below_chain HB hb3
            go_wp2_with fail
            refine hK.out _ _ (hKp _ _ hHeld hb3) (fun hHeld => ?_)
            clear hK K hb3
            try simp only [Act.put, List.setIfInBounds_toArray, List.set_cons_zero, List.set_cons_succ]
            refine held_take (i := 8) (d := 64) (v := ?_) rfl rfl (by kernel_rfl) (by kernel_rfl) (by kernel_rfl) (fun _ _ _ h => h) (by rfl) ?_ hHeld ?_
            rotate_left
            · intro w hSw; (try dsimp only at hSw); go_simp; with_reducible rfl
            try simp only [Act.put, List.setIfInBounds_toArray, List.set_cons_zero, List.set_cons_succ]
            refine held_take (i := 9) (d := 65) (v := ?_) rfl rfl (by kernel_rfl) (by kernel_rfl) (by kernel_rfl) (fun _ _ _ h => h) (by rfl) ?_ hHeld ?_
            rotate_left
            · intro w hSw; (try dsimp only at hSw); go_simp; with_reducible rfl
            try simp only [Act.put, List.setIfInBounds_toArray, List.set_cons_zero, List.set_cons_succ]
            refine held_take (i := 10) (d := 66) (v := ?_) rfl rfl (by kernel_rfl) (by kernel_rfl) (by kernel_rfl) (fun _ _ _ h => h) (by rfl) ?_ hHeld ?_
            rotate_left
            · intro w hSw; (try dsimp only at hSw); go_simp; with_reducible rfl
            try simp only [Act.put, List.setIfInBounds_toArray, List.set_cons_zero, List.set_cons_succ]
            refine held_take (i := 11) (d := 67) (v := ?_) rfl rfl (by kernel_rfl) (by kernel_rfl) (by kernel_rfl) (fun _ _ _ h => h) (by rfl) ?_ hHeld ?_
            rotate_left
            · intro w hSw; (try dsimp only at hSw); go_simp; with_reducible rfl
            try simp only [Act.put, List.setIfInBounds_toArray, List.set_cons_zero, List.set_cons_succ]
            refine wpAnyH_ready (rs := [12]) (by kernel_rfl) (by simp) (AllReadyH.cons rfl (fun K hK => ?_) AllReadyH.nil)
            go_simp
            go_at_call 35
            refine (Compare_any (downI x i) x _ _ _ (CD.toV fd (by decide)) VX 25 fd (fx.mono (by decide)) (by decide)).mono ?_; rw [H4.out]; rintro e' wx4 ⟨rfl, hb4⟩
            replace VX := VX.next hb4
            replace HP := HP.next hb4
            replace CD := CD.next hb4
            replace CU := CU.next hb4
            replace CG := CG.next hb4
            replace HB := below_chain HB hb4
            go_wp2_with fail
            refine hK.out _ _ (hKp _ _ hHeld hb4) (fun hHeld => ?_)
            clear hK K hb4
            try simp only [Act.put, List.setIfInBounds_toArray, List.set_cons_zero, List.set_cons_succ]
            refine held_take (i := 13) (d := 69) (v := ?_) rfl rfl (by kernel_rfl) (by kernel_rfl) (by kernel_rfl) (fun _ _ _ h => h) (by rfl) ?_ hHeld ?_
            rotate_left
            · intro w hSw; (try dsimp only at hSw); go_simp; with_reducible rfl
            try simp only [Act.put, List.setIfInBounds_toArray, List.set_cons_zero, List.set_cons_succ]
            refine held_take (i := 14) (d := 70) (v := ?_) rfl rfl (by kernel_rfl) (by kernel_rfl) (by kernel_rfl) (fun _ _ _ h => h) (by rfl) ?_ hHeld ?_
            rotate_left
            · intro w hSw; (try dsimp only at hSw); go_simp; with_reducible rfl
            try simp only [Act.put, List.setIfInBounds_toArray, List.set_cons_zero, List.set_cons_succ]
            refine held_take (i := 15) (d := 71) (v := ?_) rfl rfl (by kernel_rfl) (by kernel_rfl) (by kernel_rfl) (fun _ _ _ h => h) (by rfl) ?_ hHeld ?_
            rotate_left
            · intro w hSw; (try dsimp only at hSw); go_simp; with_reducible rfl
            try simp only [Act.put, List.setIfInBounds_toArray, List.set_cons_zero, List.set_cons_succ]
            refine held_take (i := 16) (d := 72) (v := ?_) rfl rfl (by kernel_rfl) (by kernel_rfl) (by kernel_rfl) (fun _ _ _ h => h) (by rfl) ?_ hHeld ?_
            rotate_left
            · intro w hSw; (try dsimp only at hSw); go_simp; with_reducible rfl
            try simp only [Act.put, List.setIfInBounds_toArray, List.set_cons_zero, List.set_cons_succ]
            refine held_take (i := 17) (d := 73) (v := ?_) rfl rfl (by kernel_rfl) (by kernel_rfl) (by kernel_rfl) (fun _ _ _ h => h) (by rfl) ?_ hHeld ?_
            rotate_left
            · intro w hSw; (try dsimp only at hSw); go_simp; with_reducible rfl
            try simp only [Act.put, List.setIfInBounds_toArray, List.set_cons_zero, List.set_cons_succ]
            refine wpAnyH_ready (rs := [18]) (by kernel_rfl) (by simp) (AllReadyH.cons rfl (fun K hK => ?_) AllReadyH.nil)
            go_simp
            go_at_call 35
            refine (Compare_any x (upI x i) _ _ _ VX (CU.toV fu (by decide)) 25 (fx.mono (by decide)) fu (by decide)).mono ?_; rw [H5.out]; rintro e' wx5 ⟨rfl, hb5⟩
            replace VX := VX.next hb5
            replace HP := HP.next hb5
            replace CD := CD.next hb5
            replace CU := CU.next hb5
            replace CG := CG.next hb5
            replace HB := below_chain HB hb5
            go_wp2_with fail
            refine hK.out _ _ (hKp _ _ hHeld hb5) (fun hHeld => ?_)
            clear hK K hb5
            try simp only [Act.put, List.setIfInBounds_toArray, List.set_cons_zero, List.set_cons_succ]
            refine held_take (i := 19) (d := 75) (v := ?_) rfl rfl (by kernel_rfl) (by kernel_rfl) (by kernel_rfl) (fun _ _ _ h => h) (by rfl) ?_ hHeld ?_
            rotate_left
            · intro w hSw; (try dsimp only at hSw); go_simp; with_reducible rfl
            try simp only [Act.put, List.setIfInBounds_toArray, List.set_cons_zero, List.set_cons_succ]
            refine held_take (i := 20) (d := 76) (v := ?_) rfl rfl (by kernel_rfl) (by kernel_rfl) (by kernel_rfl) (fun _ _ _ h => h) (by rfl) ?_ hHeld ?_
            rotate_left
            · intro w hSw; (try dsimp only at hSw); go_simp; with_reducible rfl
            try simp only [Act.put, List.setIfInBounds_toArray, List.set_cons_zero, List.set_cons_succ]
            refine held_take (i := 21) (d := 77) (v := ?_) rfl rfl (by kernel_rfl) (by kernel_rfl) (by kernel_rfl) (fun _ _ _ h => h) (by rfl) ?_ hHeld ?_
            rotate_left
            · intro w hSw; (try dsimp only at hSw); go_simp; with_reducible rfl
            try simp only [Act.put, List.setIfInBounds_toArray, List.set_cons_zero, List.set_cons_succ]
            refine held_take (i := 22) (d := 78) (v := ?_) rfl rfl (by kernel_rfl) (by kernel_rfl) (by kernel_rfl) (fun _ _ _ h => h) (by rfl) ?_ hHeld ?_
            rotate_left
            · intro w hSw; (try dsimp only at hSw); go_simp; with_reducible rfl
            try simp only [Act.put, List.setIfInBounds_toArray, List.set_cons_zero, List.set_cons_succ]
            refine wpAnyH_ready (rs := [23]) (by kernel_rfl) (by simp) (AllReadyH.cons rfl (fun K hK => ?_) AllReadyH.nil)
            go_simp
            go_at_call 37
            refine (Sign_any ((upI x i - downI x i) * ((2 ^ b : Nat) : Rat)) _ _ (CG.toV fg (by decide))).mono ?_; rw [H6.out]; rintro e' wx6 ⟨rfl, hb6⟩
            replace VX := VX.next hb6
            replace HP := HP.next hb6
            replace CD := CD.next hb6
            replace CU := CU.next hb6
            replace CG := CG.next hb6
            replace HB := below_chain HB hb6
            go_wp2_with fail
            refine hK.out _ _ (hKp _ _ hHeld hb6) (fun hHeld => ?_)
            clear hK K hb6
            try simp only [Act.put, List.setIfInBounds_toArray, List.set_cons_zero, List.set_cons_succ]
            refine held_take (i := 24) (d := 80) (v := ?_) rfl rfl (by kernel_rfl) (by kernel_rfl) (by kernel_rfl) (fun _ _ _ h => h) (by rfl) ?_ hHeld ?_
            rotate_left
            · intro w hSw; (try dsimp only at hSw); go_simp; with_reducible rfl
            try simp only [Act.put, List.setIfInBounds_toArray, List.set_cons_zero, List.set_cons_succ]
            refine held_take (i := 25) (d := 81) (v := ?_) rfl rfl (by kernel_rfl) (by kernel_rfl) (by kernel_rfl) (fun _ _ _ h => h) (by rfl) ?_ hHeld ?_
            rotate_left
            · intro w hSw; (try dsimp only at hSw); go_simp; with_reducible rfl
            try simp only [Act.put, List.setIfInBounds_toArray, List.set_cons_zero, List.set_cons_succ]
            refine held_take (i := 26) (d := 82) (v := ?_) rfl rfl (by kernel_rfl) (by kernel_rfl) (by kernel_rfl) (fun _ _ _ h => h) (by rfl) ?_ hHeld ?_
            rotate_left
            · intro w hSw; (try dsimp only at hSw); go_simp; with_reducible rfl
            try simp only [Act.put, List.setIfInBounds_toArray, List.set_cons_zero, List.set_cons_succ]
            refine held_take (i := 27) (d := 83) (v := ?_) rfl rfl (by kernel_rfl) (by kernel_rfl) (by kernel_rfl) (fun _ _ _ h => h) (by rfl) ?_ hHeld ?_
            rotate_left
            · intro w hSw; (try dsimp only at hSw); go_simp; with_reducible rfl
            try simp only [Act.put, List.setIfInBounds_toArray, List.set_cons_zero, List.set_cons_succ]
            refine wpAnyH_ready (rs := [28]) (by kernel_rfl) (by simp) (AllReadyH.cons rfl (fun K hK => ?_) AllReadyH.nil)
            go_simp
            go_at_call 38
            refine (rOf_any 1 1 (by decide) (by decide) (by decide) (by decide) _).mono ?_; rintro e' wx7 ⟨v7, rfl, C7, hb7⟩
            replace VX := VX.next hb7
            replace HP := HP.next hb7
            replace CD := CD.next hb7
            replace CU := CU.next hb7
            replace CG := CG.next hb7
            replace HB := below_chain HB hb7
            go_wp2_with fail
            refine hK.out _ _ (hKp _ _ hHeld hb7) (fun hHeld => ?_)
            clear hK K hb7
            try simp only [Act.put, List.setIfInBounds_toArray, List.set_cons_zero, List.set_cons_succ]
            refine wpAnyH_ready (rs := [29]) (by kernel_rfl) (by simp) (AllReadyH.cons rfl (fun K hK => ?_) AllReadyH.nil)
            go_simp
            go_at_call 35
            refine (Compare_any ((upI x i - downI x i) * ((2 ^ b : Nat) : Rat)) (makeRat 1 1) _ _ _ (CG.toV fg (by decide)) (C7.toV hone (by decide)) 60 fg (hone.mono (by decide)) (by decide)).mono ?_; rw [H7.out]; rintro e' wx8 ⟨rfl, hb8⟩
            replace VX := VX.next hb8
            replace HP := HP.next hb8
            replace CD := CD.next hb8
            replace CU := CU.next hb8
            replace CG := CG.next hb8
            replace C7 := C7.next hb8
            replace HB := below_chain HB hb8
            go_wp2_with fail
            refine hK.out _ _ (hKp _ _ hHeld hb8) (fun hHeld => ?_)
            clear hK K hb8
            try simp only [Act.put, List.setIfInBounds_toArray, List.set_cons_zero, List.set_cons_succ]
            refine held_take (i := 30) (d := 86) (v := ?_) rfl rfl (by kernel_rfl) (by kernel_rfl) (by kernel_rfl) (fun _ _ _ h => h) (by rfl) ?_ hHeld ?_
            rotate_left
            · intro w hSw; (try dsimp only at hSw); go_simp; with_reducible rfl
            try simp only [Act.put, List.setIfInBounds_toArray, List.set_cons_zero, List.set_cons_succ]
            refine held_take (i := 31) (d := 87) (v := ?_) rfl rfl (by kernel_rfl) (by kernel_rfl) (by kernel_rfl) (fun _ _ _ h => h) (by rfl) ?_ hHeld ?_
            rotate_left
            · intro w hSw; (try dsimp only at hSw); go_simp; with_reducible rfl
            try simp only [Act.put, List.setIfInBounds_toArray, List.set_cons_zero, List.set_cons_succ]
            refine held_take (i := 32) (d := 88) (v := ?_) rfl rfl (by kernel_rfl) (by kernel_rfl) (by kernel_rfl) (fun _ _ _ h => h) (by rfl) ?_ hHeld ?_
            rotate_left
            · intro w hSw; (try dsimp only at hSw); go_simp; with_reducible rfl
            try simp only [Act.put, List.setIfInBounds_toArray, List.set_cons_zero, List.set_cons_succ]
            refine held_take (i := 33) (d := 89) (v := ?_) rfl rfl (by kernel_rfl) (by kernel_rfl) (by kernel_rfl) (fun _ _ _ h => h) (by rfl) ?_ hHeld ?_
            rotate_left
            · intro w hSw; (try dsimp only at hSw); go_simp; with_reducible rfl
            try simp only [Act.put, List.setIfInBounds_toArray, List.set_cons_zero, List.set_cons_succ]
            refine held_take (i := 34) (d := 90) (v := ?_) rfl rfl (by kernel_rfl) (by kernel_rfl) (by kernel_rfl) (fun _ _ _ h => h) (by rfl) ?_ hHeld ?_
            rotate_left
            · intro w hSw; (try dsimp only at hSw); go_simp; with_reducible rfl
            try simp only [Act.put, List.setIfInBounds_toArray, List.set_cons_zero, List.set_cons_succ]
            refine held_take (i := 36) (d := 92) (v := ?_) rfl rfl (by kernel_rfl) (by kernel_rfl) (by kernel_rfl) (fun _ _ _ h => h) (by rfl) ?_ hHeld ?_
            rotate_left
            · intro w hSw; (try dsimp only at hSw); go_simp; with_reducible rfl
            try simp only [Act.put, List.setIfInBounds_toArray, List.set_cons_zero, List.set_cons_succ]
            refine wpAnyH_ready (rs := [35]) (by kernel_rfl) (by simp) (AllReadyH.cons rfl (fun K hK => ?_) AllReadyH.nil)
            go_simp
            go_at_call 14
            refine (Down_any (downI x i) i _ _ (CD.toV fd (by decide)) 25 fd (by decide)).mono ?_; rintro e' wx9 ⟨v9, rfl, C9, hb9⟩
            have f9 : Fit 44 (downI (downI x i) i) := fit_downI fd i
            replace VX := VX.next hb9
            replace HP := HP.next hb9
            replace CD := CD.next hb9
            replace CU := CU.next hb9
            replace CG := CG.next hb9
            replace C7 := C7.next hb9
            replace HB := below_chain HB hb9
            go_wp2_with fail
            refine hK.out _ _ (hKp _ _ hHeld hb9) (fun hHeld => ?_)
            clear hK K hb9
            try simp only [Act.put, List.setIfInBounds_toArray, List.set_cons_zero, List.set_cons_succ]
            refine wpAnyH_ready (rs := [37]) (by kernel_rfl) (by simp) (AllReadyH.cons rfl (fun K hK => ?_) AllReadyH.nil)
            go_simp
            go_at_call 13
            refine (rSameE (downI (downI x i) i) (downI x i) J6.out _ _ _ C9 CD).mono ?_; rintro e' wx10 ⟨rfl, hb10⟩
            replace VX := VX.next hb10
            replace HP := HP.next hb10
            replace CD := CD.next hb10
            replace CU := CU.next hb10
            replace CG := CG.next hb10
            replace C7 := C7.next hb10
            replace C9 := C9.next hb10
            replace HB := below_chain HB hb10
            go_wp2_with fail
            refine hK.out _ _ (hKp _ _ hHeld hb10) (fun hHeld => ?_)
            clear hK K hb10
            try simp only [Act.put, List.setIfInBounds_toArray, List.set_cons_zero, List.set_cons_succ]
            refine held_take (i := 38) (d := 94) (v := ?_) rfl rfl (by kernel_rfl) (by kernel_rfl) (by kernel_rfl) (fun _ _ _ h => h) (by rfl) ?_ hHeld ?_
            rotate_left
            · intro w hSw; (try dsimp only at hSw); go_simp; with_reducible rfl
            try simp only [Act.put, List.setIfInBounds_toArray, List.set_cons_zero, List.set_cons_succ]
            refine held_take (i := 39) (d := 95) (v := ?_) rfl rfl (by kernel_rfl) (by kernel_rfl) (by kernel_rfl) (fun _ _ _ h => h) (by rfl) ?_ hHeld ?_
            rotate_left
            · intro w hSw; (try dsimp only at hSw); go_simp; with_reducible rfl
            try simp only [Act.put, List.setIfInBounds_toArray, List.set_cons_zero, List.set_cons_succ]
            refine held_take (i := 40) (d := 96) (v := ?_) rfl rfl (by kernel_rfl) (by kernel_rfl) (by kernel_rfl) (fun _ _ _ h => h) (by rfl) ?_ hHeld ?_
            rotate_left
            · intro w hSw; (try dsimp only at hSw); go_simp; with_reducible rfl
            try simp only [Act.put, List.setIfInBounds_toArray, List.set_cons_zero, List.set_cons_succ]
            refine held_take (i := 41) (d := 97) (v := ?_) rfl rfl (by kernel_rfl) (by kernel_rfl) (by kernel_rfl) (fun _ _ _ h => h) (by rfl) ?_ hHeld ?_
            rotate_left
            · intro w hSw; (try dsimp only at hSw); go_simp; with_reducible rfl
            try simp only [Act.put, List.setIfInBounds_toArray, List.set_cons_zero, List.set_cons_succ]
            refine held_take (i := 43) (d := 99) (v := ?_) rfl rfl (by kernel_rfl) (by kernel_rfl) (by kernel_rfl) (fun _ _ _ h => h) (by rfl) ?_ hHeld ?_
            rotate_left
            · intro w hSw; (try dsimp only at hSw); go_simp; with_reducible rfl
            try simp only [Act.put, List.setIfInBounds_toArray, List.set_cons_zero, List.set_cons_succ]
            refine wpAnyH_ready (rs := [42]) (by kernel_rfl) (by simp) (AllReadyH.cons rfl (fun K hK => ?_) AllReadyH.nil)
            go_simp
            go_at_call 16
            refine (Up_any (downI x i) i _ _ (CD.toV fd (by decide)) 25 fd (by decide)).mono ?_; rintro e' wx11 ⟨v11, rfl, C11, hb11⟩
            have f11 : Fit 44 (upI (downI x i) i) := fit_upI fd i
            replace VX := VX.next hb11
            replace HP := HP.next hb11
            replace CD := CD.next hb11
            replace CU := CU.next hb11
            replace CG := CG.next hb11
            replace C7 := C7.next hb11
            replace C9 := C9.next hb11
            replace HB := below_chain HB hb11
            go_wp2_with fail
            refine hK.out _ _ (hKp _ _ hHeld hb11) (fun hHeld => ?_)
            clear hK K hb11
            try simp only [Act.put, List.setIfInBounds_toArray, List.set_cons_zero, List.set_cons_succ]
            refine wpAnyH_ready (rs := [44]) (by kernel_rfl) (by simp) (AllReadyH.cons rfl (fun K hK => ?_) AllReadyH.nil)
            go_simp
            go_at_call 13
            refine (rSameE (upI (downI x i) i) (downI x i) J7.out _ _ _ C11 CD).mono ?_; rintro e' wx12 ⟨rfl, hb12⟩
            replace VX := VX.next hb12
            replace HP := HP.next hb12
            replace CD := CD.next hb12
            replace CU := CU.next hb12
            replace CG := CG.next hb12
            replace C7 := C7.next hb12
            replace C9 := C9.next hb12
            replace C11 := C11.next hb12
            replace HB := below_chain HB hb12
            go_wp2_with fail
            refine hK.out _ _ (hKp _ _ hHeld hb12) (fun hHeld => ?_)
            clear hK K hb12
            try simp only [Act.put, List.setIfInBounds_toArray, List.set_cons_zero, List.set_cons_succ]
            refine held_take (i := 45) (d := 101) (v := ?_) rfl rfl (by kernel_rfl) (by kernel_rfl) (by kernel_rfl) (fun _ _ _ h => h) (by rfl) ?_ hHeld ?_
            rotate_left
            · intro w hSw; (try dsimp only at hSw); go_simp; with_reducible rfl
            try simp only [Act.put, List.setIfInBounds_toArray, List.set_cons_zero, List.set_cons_succ]
            refine held_take (i := 46) (d := 6) (v := ?_) rfl rfl (by kernel_rfl) (by kernel_rfl) (by kernel_rfl) (fun _ _ _ h => h) (by rfl) ?_ hHeld ?_
            rotate_left
            · intro w hSw; (try dsimp only at hSw); go_simp; with_reducible rfl
            try simp only [Act.put, List.setIfInBounds_toArray, List.set_cons_zero, List.set_cons_succ]
            refine wpAnyH_done (by kernel_rfl) ?_ _
            go_wp2_with fail
            go_ret
            exact ⟨rfl, HB⟩

end Go.Proofs.YtjppjhjfogjhaaaGreatDoor
