/-
  The walk of RationalIsAField. No condition but the table of powers of ten.
-/
import Derived.Test.YtjppjhjfogjhaaaGreatDoorLawF
namespace Go.Proofs.YtjppjhjfogjhaaaGreatDoor
open Go.RowKit Go.Lib
set_option linter.unusedSimpArgs false
set_option linter.unusedVariables false

/-- A rational and an error in variables of their own, beside three that were there. -/
def OneRat (w : World) (q : Rat) (c : Int) (a0 b0 c0 a1 b1 c1 a2 b2 c2 : Value) (v7 v8 : Value) (wx : World) : Prop :=
  ∃ (g : Nat) (xs : Bool) (xo : Option Addr) (xn xc : Nat) (yo : Option Addr) (yn yc : Nat),
    v7 = .pointer (some ⟨g, 0, none⟩) ∧ v8 = .int .i64 c ∧ C3 g (.bool xs) (.slice xo xn xc) (.slice yo yn yc) wx ∧
    RatC wx (.agg #[.bool xs, .slice xo xn xc, .slice yo yn yc]) q ∧ C3 w.heap.size a0 b0 c0 wx ∧ C3 (w.heap.size + 1) a1 b1 c1 wx ∧ C3 (w.heap.size + 1 + 1) a2 b2 c2 wx ∧ Below w.heap.size w wx

theorem RatC.newG {w : World} {v : Value} {q : Rat} (h : RatC w v q) (o : Obj) : RatC (w.alloc o) v q := h.next (below_alloc o)

theorem div_back {x y : Rat} (h : y ≠ 0) : x * y / y = x := Rat.mul_div_cancel h
theorem rsg_self (x : Rat) : rsg (x - x) = 0 := (rsg_zero_iff x x).2 rfl

set_option maxHeartbeats 8000000 in
set_option maxRecDepth 100000 in
theorem walkField (w : World) (hp : Pow w) (s : Bool) (N D : List Nat) (bo : Option Addr) (m ca : Nat) (co : Option Addr) (l cb : Nat) (hN1 : Sl w bo m ca (u32s N)) (hD1 : Sl w co l cb (u32s D)) (LN1 : Lim N) (LD1 : Lim D) (zb1 : bo = none → ca = 0) (zc1 : co = none → cb = 0) (t : Bool) (N2 D2 : List Nat) (bo2 : Option Addr) (m2 ca2 : Nat) (co2 : Option Addr) (l2 cb2 : Nat) (hN2 : Sl w bo2 m2 ca2 (u32s N2)) (hD2 : Sl w co2 l2 cb2 (u32s D2)) (LN2 : Lim N2) (LD2 : Lim D2) (zb2 : bo2 = none → ca2 = 0) (zc2 : co2 = none → cb2 = 0) (u : Bool) (N3 D3 : List Nat) (bo3 : Option Addr) (m3 ca3 : Nat) (co3 : Option Addr) (l3 cb3 : Nat) (hN3 : Sl w bo3 m3 ca3 (u32s N3)) (hD3 : Sl w co3 l3 cb3 (u32s D3)) (LN3 : Lim N3) (LD3 : Lim D3) (zb3 : bo3 = none → ca3 = 0) (zc3 : co3 = none → cb3 = 0) :
    Calls Tryz.prog 9 #[.agg #[.bool s, .slice bo m ca, .slice co l cb], .agg #[.bool t, .slice bo2 m2 ca2, .slice co2 l2 cb2], .agg #[.bool u, .slice bo3 m3 ca3, .slice co3 l3 cb3]] w fun e w' => e = .returned (.bool true) ∧ Below w.heap.size w w' := by
  have X : Bk w w.heap.size (.bool s) (.slice bo m ca) (.slice co l cb) (((w.alloc (.cells #[.bool s, .slice bo m ca, .slice co l cb] 24)).alloc (.cells #[.bool t, .slice bo2 m2 ca2, .slice co2 l2 cb2] 24)).alloc (.cells #[.bool u, .slice bo3 m3 ca3, .slice co3 l3 cb3] 24)) := ((Bk.start (Below.refl w.heap.size w) rfl (.bool s) (.slice bo m ca) (.slice co l cb) 24).new _).new _
  have Y : Bk w (w.heap.size + 1) (.bool t) (.slice bo2 m2 ca2) (.slice co2 l2 cb2) (((w.alloc (.cells #[.bool s, .slice bo m ca, .slice co l cb] 24)).alloc (.cells #[.bool t, .slice bo2 m2 ca2, .slice co2 l2 cb2] 24)).alloc (.cells #[.bool u, .slice bo3 m3 ca3, .slice co3 l3 cb3] 24)) := (Bk.start (below_alloc _) (by simp) _ _ _ 24).new _
  have Z : Bk w (w.heap.size + 1 + 1) (.bool u) (.slice bo3 m3 ca3) (.slice co3 l3 cb3) (((w.alloc (.cells #[.bool s, .slice bo m ca, .slice co l cb] 24)).alloc (.cells #[.bool t, .slice bo2 m2 ca2, .slice co2 l2 cb2] 24)).alloc (.cells #[.bool u, .slice bo3 m3 ca3, .slice co3 l3 cb3] 24)) := Bk.start ((below_alloc _).alloc (by simp) _) (by simp) _ _ _ 24
  have HB := X.bel
  have hfair := fun W (hb : Below w.heap.size w W) => fair_any W s N D bo m ca co l cb (hN1.next hb) (hD1.next hb) LN1 LD1 zb1 zc1 t N2 D2 bo2 m2 ca2 co2 l2 cb2 (hN2.next hb) (hD2.next hb) LN2 LD2 zb2 zc2 u N3 D3 bo3 m3 ca3 co3 l3 cb3 (hN3.next hb) (hD3.next hb) LN3 LD3 zb3 zc3
  cases hF : fairB s N D m l t N2 D2 m2 l2 u N3 D3 m3 l3 with
  | false =>
    rw [hF] at hfair
    have HF := hid hfair
    clear hF hfair
    obtain ⟨x0, x1, x2⟩ := X.c3
    obtain ⟨y0, y1, y2⟩ := Y.c3
    go_enter Tryz.func9, Tryz.ntmps9
    go_wp2_with fail
    refine (HF.out _ HB).mono ?_; rintro e w1 ⟨rfl, hb1⟩
    clear x0 x1 x2 y0 y1 y2
    replace X := X.next hb1
    replace Y := Y.next hb1
    replace HB := below_chain HB hb1
    clear hb1
    go_wp2_with fail
    refine (lawake_any _ (hp.next HB)).mono ?_; rintro e wq ⟨rfl, hbq⟩
    go_wp2_with fail
    go_ret
    exact ⟨rfl, below_chain HB hbq⟩
  | true =>
    rw [hF] at hfair
    obtain ⟨hL1, hL2, hL3, hV1, hV2, hV3⟩ := fairB_yes hF
    have HF := hid hfair
    obtain ⟨vX, fx⟩ := arg_V (s := s) hN1 hD1 LN1 LD1 zb1 zc1 hL1
    obtain ⟨vY, fy⟩ := arg_V (s := t) hN2 hD2 LN2 LD2 zb2 zc2 hL2
    obtain ⟨vZ, fz⟩ := arg_V (s := u) hN3 hD3 LN3 LD3 zb3 zc3 hL3
    have cX := arg_C hN1 hD1 LN1 LD1 zb1 zc1 hV1
    generalize ratOf s N D = x at *
    generalize ratOf t N2 D2 = y at *
    generalize ratOf u N3 D3 = z at *
    clear hF hfair hL1 hL2 hL3 hV1 hV2 hV3 hN1 hD1 LN1 LD1 hN2 hD2 LN2 LD2 hN3 hD3 LN3 LD3
    obtain ⟨c, hc⟩ : ∃ c, divErr y = c := ⟨_, rfl⟩
    have HC := hid hc
    clear hc
    obtain ⟨x0, x1, x2⟩ := X.c3
    obtain ⟨y0, y1, y2⟩ := Y.c3
    obtain ⟨z0, z1, z2⟩ := Z.c3
    go_enter Tryz.func9, Tryz.ntmps9
    go_wp2_with fail
    refine (HF.out _ HB).mono ?_; rintro e' w1 ⟨rfl, hb1⟩
    clear x0 x1 x2 y0 y1 y2 z0 z1 z2
    replace X := X.next hb1
    replace Y := Y.next hb1
    replace Z := Z.next hb1
    replace HB := below_chain HB hb1
    clear hb1
    clear HF zb1 zc1 zb2 zc2 zb3 zc3
    go_upto_region 3 with fail
    go_cut [7, 8] (fun v7 v8 wx => OneRat w (x * y / y) c (.bool s) (.slice bo m ca) (.slice co l cb) (.bool t) (.slice bo2 m2 ca2) (.slice co2 l2 cb2) (.bool u) (.slice bo3 m3 ca3) (.slice co3 l3 cb3) v7 v8 wx)
    case first =>
      have h0 := X.c3
      have h0' := Y.c3
      have h0'' := Z.c3
      have lt0 : w.heap.size + 1 + 1 < w1.heap.size := Z.lt
      have hbel := X.bel
      have hS0 : C3 w.heap.size (.bool s) (.slice bo m ca) (.slice co l cb) w1.drew ∧ C3 (w.heap.size + 1) (.bool t) (.slice bo2 m2 ca2) (.slice co2 l2 cb2) w1.drew ∧ C3 (w.heap.size + 1 + 1) (.bool u) (.slice bo3 m3 ca3) (.slice co3 l3 cb3) w1.drew ∧ Below w.heap.size w w1.drew ∧ w.heap.size + 1 + 1 < w1.drew.heap.size := ⟨X.drew.c3, Y.drew.c3, Z.drew.c3, hbel.drew, lt0⟩
      have hSW : C3 w.heap.size (.bool s) (.slice bo m ca) (.slice co l cb) w1 ∧ C3 (w.heap.size + 1) (.bool t) (.slice bo2 m2 ca2) (.slice co2 l2 cb2) w1 ∧ C3 (w.heap.size + 1 + 1) (.bool u) (.slice bo3 m3 ca3) (.slice co3 l3 cb3) w1 ∧ Below w.heap.size w w1 ∧ w.heap.size + 1 + 1 < w1.heap.size := ⟨h0, h0', h0'', hbel, lt0⟩
      have hK : ∀ w' w'', (C3 w.heap.size (.bool s) (.slice bo m ca) (.slice co l cb) w' ∧ C3 (w.heap.size + 1) (.bool t) (.slice bo2 m2 ca2) (.slice co2 l2 cb2) w' ∧ C3 (w.heap.size + 1 + 1) (.bool u) (.slice bo3 m3 ca3) (.slice co3 l3 cb3) w' ∧ Below w.heap.size w w' ∧ w.heap.size + 1 + 1 < w'.heap.size) → Below w'.heap.size w' w'' → (C3 w.heap.size (.bool s) (.slice bo m ca) (.slice co l cb) w'' ∧ C3 (w.heap.size + 1) (.bool t) (.slice bo2 m2 ca2) (.slice co2 l2 cb2) w'' ∧ C3 (w.heap.size + 1 + 1) (.bool u) (.slice bo3 m3 ca3) (.slice co3 l3 cb3) w'' ∧ Below w.heap.size w w'' ∧ w.heap.size + 1 + 1 < w''.heap.size) := fun w' w'' h hb => ⟨h.1.next hb, h.2.1.next hb, h.2.2.1.next hb, below_chain h.2.2.2.1 hb, Nat.lt_of_lt_of_le h.2.2.2.2 hb.size⟩
      have hSt : ∀ w' G (x' y' z' : Value), w.heap.size + 1 + 1 < G → (C3 w.heap.size (.bool s) (.slice bo m ca) (.slice co l cb) w' ∧ C3 (w.heap.size + 1) (.bool t) (.slice bo2 m2 ca2) (.slice co2 l2 cb2) w' ∧ C3 (w.heap.size + 1 + 1) (.bool u) (.slice bo3 m3 ca3) (.slice co3 l3 cb3) w' ∧ Below w.heap.size w w' ∧ w.heap.size + 1 + 1 < w'.heap.size) → (C3 w.heap.size (.bool s) (.slice bo m ca) (.slice co l cb) (((w'.setCell ⟨G, 0, none⟩ x').setCell ⟨G, 1, none⟩ y').setCell ⟨G, 2, none⟩ z') ∧ C3 (w.heap.size + 1) (.bool t) (.slice bo2 m2 ca2) (.slice co2 l2 cb2) (((w'.setCell ⟨G, 0, none⟩ x').setCell ⟨G, 1, none⟩ y').setCell ⟨G, 2, none⟩ z') ∧ C3 (w.heap.size + 1 + 1) (.bool u) (.slice bo3 m3 ca3) (.slice co3 l3 cb3) (((w'.setCell ⟨G, 0, none⟩ x').setCell ⟨G, 1, none⟩ y').setCell ⟨G, 2, none⟩ z') ∧ Below w.heap.size w (((w'.setCell ⟨G, 0, none⟩ x').setCell ⟨G, 1, none⟩ y').setCell ⟨G, 2, none⟩ z') ∧ w.heap.size + 1 + 1 < (((w'.setCell ⟨G, 0, none⟩ x').setCell ⟨G, 1, none⟩ y').setCell ⟨G, 2, none⟩ z').heap.size) :=
        fun w' G x' y' z' hG h => ⟨h.1.set3 (by omega) _ _ _, h.2.1.set3 (by omega) _ _ _, h.2.2.1.set3 (by omega) _ _ _, below_set3 h.2.2.2.1 (by omega) _ _ _, by rw [size_set3]; exact h.2.2.2.2⟩
      clear h0 h0' h0'' X Y Z HB
      go_region_held3 (fun w' => C3 w.heap.size (.bool s) (.slice bo m ca) (.slice co l cb) w' ∧ C3 (w.heap.size + 1) (.bool t) (.slice bo2 m2 ca2) (.slice co2 l2 cb2) w' ∧ C3 (w.heap.size + 1 + 1) (.bool u) (.slice bo3 m3 ca3) (.slice co3 l3 cb3) w' ∧ Below w.heap.size w w' ∧ w.heap.size + 1 + 1 < w'.heap.size)
        (repeat (first | with_reducible refine hSt _ _ _ _ _ (by with_reducible first | exact lt0 | exact Nat.lt_succ_of_lt lt0 | exact lt1 | exact Nat.lt_succ_of_lt lt1 | exact lt2 | exact Nat.lt_succ_of_lt lt2) ?_ | with_reducible assumption | with_reducible refine hK _ _ ?_ (below_alloc _) | with_reducible refine hK _ _ ?_ hb1 | with_reducible refine hK _ _ ?_ hb2 | with_reducible refine hK _ _ ?_ (Below.refl _ _).drew))
        (first
          | (go_at_call 31; refine (Mul_any x y _ _ _ (vX.next (show Below w.heap.size w _ from And.left (And.right (And.right (And.right (by assumption)))))) (vY.next (show Below w.heap.size w _ from And.left (And.right (And.right (And.right (by assumption)))))) 6 fx fy (by decide)).mono ?_; rintro e' wd ⟨f1, rfl, F1, hb1⟩; have lt1 := (hK _ wd (by assumption) hb1).2.2.2.2; obtain ⟨hc1, hf1⟩ := bcell hb1; have hz1 := hb1.size; (try simp at hz1); (try have hu1 := Nat.lt_of_succ_le hz1); (try have hy1 := Nat.lt_of_succ_lt hu1))
          | (go_at_call 25; (first | refine (Div_any (x * y) y _ _ _ (F1.toV (fit_mul fx fy) (by decide)) (vY.next (show Below w.heap.size w _ from And.left (And.right (And.right (And.right (by assumption)))))) 12 (fit_mul fx fy) (fy.mono (by decide)) (by decide)).mono ?_ | refine (Div_any (x * y) y _ _ _ ((F1.newG _).toV (fit_mul fx fy) (by decide)) (vY.next (show Below w.heap.size w _ from And.left (And.right (And.right (And.right (by assumption)))))) 12 (fit_mul fx fy) (fy.mono (by decide)) (by decide)).mono ?_); rw [HC.out]; rintro e' wu ⟨f2, rfl, F2, hb2⟩; have lt2 := (hK _ wu (by assumption) hb2).2.2.2.2; obtain ⟨hc2, hf2⟩ := bcell hb2; have hz2 := hb2.size; (try simp at hz2); (try have hu2 := Nat.lt_of_succ_le hz2); (try have hy2 := Nat.lt_of_succ_lt hu2); (try have hx2 := Nat.lt_of_lt_of_le hu1 (Nat.le_trans (by simp) hb2.size)); (try have hw2 := Nat.lt_of_lt_of_le hy1 (Nat.le_trans (by simp) hb2.size)); obtain ⟨xs, xo, xn, xc, yo, yn, yc, rfl⟩ := F2.shape))
      all_goals
        go_wp2_with fail
        go_meet
        have hlt : ∀ x : Nat, w.heap.size + 1 + 1 < x → w.heap.size ≤ x := fun x h => by omega
        have sol : ∀ (X : World) (G : Nat), G = X.heap.size → Below w.heap.size w X → Res w G false none 0 0 none 0 0 (X.alloc (.cells #[.bool false, .slice none 0 0, .slice none 0 0] 24)) := fun X G e h => Res.startAt h e _ _ _ _ _ _ _ _
        refine ⟨_, xs, xo, xn, xc, yo, yn, yc, rfl, rfl, ?_, ?_, ?_, ?_, ?_, ?_⟩
        all_goals (repeat' (first | with_reducible exact F2 | with_reducible exact hSW.1 | with_reducible exact hSW.2.1 | with_reducible exact hSW.2.2.1 | with_reducible exact hbel | with_reducible refine RatC.putOther (w := w) (b0 := false) (a1 := none) (n1 := 0) (k1 := 0) (a2 := none) (n2 := 0) (k2 := 0) ?_ ?_ _ _ _ | with_reducible refine RatC.newG ?_ _ | with_reducible refine C3.stored (w := w) (b0 := false) (a1 := none) (n1 := 0) (k1 := 0) (a2 := none) (n2 := 0) (k2 := 0) ?_ _ _ _ | with_reducible refine C3.set3 ?_ ?_ _ _ _ | (with_reducible refine C3.here _ _ ?_; · simp) | with_reducible refine C3.new ?_ _ | with_reducible refine Res.other ?_ ?_ (hlt _ ?_) _ _ _ | (with_reducible refine sol _ _ ?_ ?_; · (with_reducible rfl)) | (with_reducible refine sol _ _ ?_ ?_; · simp) | with_reducible refine Res.new ?_ _ | with_reducible refine Res.drew ?_ | with_reducible exact hbel.drew | with_reducible refine below_set3 ?_ (hlt _ ?_) _ _ _ | with_reducible refine below_new ?_ _ | with_reducible refine Below.drew ?_ | with_reducible refine C3.next ?_ hb2 | with_reducible refine C3.next ?_ hb1 | with_reducible refine C3.next ?_ (Below.refl _ _).drew | with_reducible refine Res.next ?_ hb2 | with_reducible refine Res.next ?_ hb1 | with_reducible refine below_chain ?_ hb2 | with_reducible refine below_chain ?_ hb1 | with_reducible exact lt0 | with_reducible exact Nat.lt_succ_of_lt lt0 | with_reducible exact lt1 | with_reducible exact Nat.lt_succ_of_lt lt1 | with_reducible exact lt2 | with_reducible exact Nat.lt_succ_of_lt lt2 | omega))
    case rest =>
      clear X Y Z HB
      obtain ⟨gA, xs, xo, xn, xc, yo, yn, yc, rfl, rfl, KQ, CQ, KX, KY, KZ, HB⟩ := hcut
      have HP := hp.next HB
      have VX := vX.next HB
      have VY := vY.next HB
      have VZ := vZ.next HB
      have CX := cX.next HB
      go_upto_region 4 with fail
      go_cut [35] (fun v wx => v = .bool false ∧ (C3 w.heap.size (.bool s) (.slice bo m ca) (.slice co l cb) wx ∧ C3 (w.heap.size + 1) (.bool t) (.slice bo2 m2 ca2) (.slice co2 l2 cb2) wx ∧ C3 (w.heap.size + 1 + 1) (.bool u) (.slice bo3 m3 ca3) (.slice co3 l3 cb3) wx) ∧ Below w.heap.size w wx)
      case first =>
        by_cases hy0 : y = 0
        · have hs : rsg y = 0 := rsg_eq_zero.2 hy0
          obtain ⟨y0, y1, y2⟩ := KY
          go_wp2_with fail
          refine (rSign_any y _ _ VY).mono ?_; rw [hs]; rintro e' w3 ⟨rfl, hb3⟩
          clear hs
          have KY : C3 (w.heap.size + 1) (.bool t) (.slice bo2 m2 ca2) (.slice co2 l2 cb2) wc := ⟨y0, y1, y2⟩
          clear y0 y1 y2
          go_wp2_with fail
          go_meet
          exact ⟨rfl, ⟨KX.next hb3, KY.next hb3, KZ.next hb3⟩, below_chain HB hb3⟩
        · obtain ⟨sy, hsy⟩ : ∃ c, rsg y = c := ⟨_, rfl⟩
          have hs0 : (sy == 0) = false := by rw [← hsy]; simpa using fun h => hy0 (rsg_eq_zero.1 h)
          have hs1 : (sy != 0) = true := by rw [bne, hs0]; rfl
          have HSY := hid hsy
          have hc0 : c = 0 := by rw [← HC.out]; exact if_neg hy0
          subst hc0
          have hdb := hid (div_back (x := x) hy0)
          clear hsy hy0
          obtain ⟨y0, y1, y2⟩ := KY
          go_wp2_with fail
          refine (rSign_any y _ _ VY).mono ?_; rw [HSY.out]; rintro e' w3 ⟨rfl, hb3⟩
          have KY : C3 (w.heap.size + 1) (.bool t) (.slice bo2 m2 ca2) (.slice co2 l2 cb2) wc := ⟨y0, y1, y2⟩
          clear y0 y1 y2
          obtain ⟨q0, q1, q2⟩ := KQ.next hb3
          obtain ⟨x0, x1, x2⟩ := KX.next hb3
          go_wp2_with fail
          refine (rSameE (x * y / y) x hdb.out _ _ _ (CQ.next hb3) (CX.next hb3)).mono ?_; rintro e' w4 ⟨rfl, hb4⟩
          clear q0 q1 q2 x0 x1 x2
          go_wp2_with fail
          go_meet
          exact ⟨rfl, ⟨(KX.next hb3).next hb4, (KY.next hb3).next hb4, (KZ.next hb3).next hb4⟩, below_chain (below_chain HB hb3) hb4⟩
      case rest =>
        clear KX KY KZ KQ CQ HB HP VX VY VZ CX
        obtain ⟨rfl, ⟨KX, KY, KZ⟩, HB⟩ := hcut
        have HP := hp.next HB
        have VX := vX.next HB
        have VY := vY.next HB
        have VZ := vZ.next HB
        go_upto_region 6 with fail
        have hd := (Below.refl wc.heap.size wc).drew
        have hS0 : C3 w.heap.size (.bool s) (.slice bo m ca) (.slice co l cb) wc.drew ∧ C3 (w.heap.size + 1) (.bool t) (.slice bo2 m2 ca2) (.slice co2 l2 cb2) wc.drew ∧ C3 (w.heap.size + 1 + 1) (.bool u) (.slice bo3 m3 ca3) (.slice co3 l3 cb3) wc.drew := ⟨KX.next hd, KY.next hd, KZ.next hd⟩
        have hKp : ∀ w' w'', (C3 w.heap.size (.bool s) (.slice bo m ca) (.slice co l cb) w' ∧ C3 (w.heap.size + 1) (.bool t) (.slice bo2 m2 ca2) (.slice co2 l2 cb2) w' ∧ C3 (w.heap.size + 1 + 1) (.bool u) (.slice bo3 m3 ca3) (.slice co3 l3 cb3) w') → Below w'.heap.size w' w'' → (C3 w.heap.size (.bool s) (.slice bo m ca) (.slice co l cb) w'' ∧ C3 (w.heap.size + 1) (.bool t) (.slice bo2 m2 ca2) (.slice co2 l2 cb2) w'' ∧ C3 (w.heap.size + 1 + 1) (.bool u) (.slice bo3 m3 ca3) (.slice co3 l3 cb3) w'') := fun w' w'' h hb => ⟨h.1.next hb, h.2.1.next hb, h.2.2.next hb⟩
        clear KX KY KZ hp vX vY vZ cX
        replace VX := VX.next hd
        replace VY := VY.next hd
        replace VZ := VZ.next hd
        replace HP := HP.next hd
        replace HB := HB.trans (hd.mono HB.size)
        refine wp_region_held_drew (S := (fun w' => C3 w.heap.size (.bool s) (.slice bo m ca) (.slice co l cb) w' ∧ C3 (w.heap.size + 1) (.bool t) (.slice bo2 m2 ca2) (.slice co2 l2 cb2) w' ∧ C3 (w.heap.size + 1 + 1) (.bool u) (.slice bo3 m3 ca3) (.slice co3 l3 cb3) w')) (by kernel_rfl) (hS0) (fun hHeld => ?_)
        refine wpAnyH_ready (rs := [0]) (by kernel_rfl) (by simp) (AllReadyH.cons rfl (fun K hK => ?_) AllReadyH.nil)
        go_simp
        go_at_call 12
        refine (lawake_any _ HP).mono ?_; rintro e' wx1 ⟨rfl, hb1⟩
        replace VX := VX.next hb1
        replace VY := VY.next hb1
        replace VZ := VZ.next hb1
        replace HP := HP.next hb1
        replace HB := below_chain HB hb1
        go_wp2_with fail
        refine hK.out _ _ (hKp _ _ hHeld hb1) (fun hHeld => ?_)
        clear hK K hb1
        try simp only [Act.put, List.setIfInBounds_toArray, List.set_cons_zero, List.set_cons_succ]
        refine held_take (i := 1) (d := 37) (v := ?_) rfl rfl (by kernel_rfl) (by kernel_rfl) (by kernel_rfl) (fun _ _ _ h => h) (by rfl) ?_ hHeld ?_
        rotate_left
        · intro w hSw; (try dsimp only at hSw); go_simp; with_reducible rfl
        try simp only [Act.put, List.setIfInBounds_toArray, List.set_cons_zero, List.set_cons_succ]
        refine held_take (i := 2) (d := 38) (v := ?_) rfl rfl (by kernel_rfl) (by kernel_rfl) (by kernel_rfl) (fun _ _ _ h => h) (by rfl) ?_ hHeld ?_
        rotate_left
        · intro w hSw; (try dsimp only at hSw); go_simp; with_reducible rfl
        try simp only [Act.put, List.setIfInBounds_toArray, List.set_cons_zero, List.set_cons_succ]
        refine held_take (i := 3) (d := 39) (v := ?_) rfl rfl (by kernel_rfl) (by kernel_rfl) (by kernel_rfl) (fun _ _ _ h => h) (by rfl) ?_ hHeld ?_
        rotate_left
        · intro w hSw; (try dsimp only at hSw); go_simp; with_reducible rfl
        try simp only [Act.put, List.setIfInBounds_toArray, List.set_cons_zero, List.set_cons_succ]
        refine held_take (i := 5) (d := 41) (v := ?_) rfl rfl (by kernel_rfl) (by kernel_rfl) (by kernel_rfl) (fun _ _ _ h => h) (by rfl) ?_ hHeld ?_
        rotate_left
        · intro w hSw; (try dsimp only at hSw); go_simp; with_reducible rfl
        try simp only [Act.put, List.setIfInBounds_toArray, List.set_cons_zero, List.set_cons_succ]
        refine held_take (i := 6) (d := 42) (v := ?_) rfl rfl (by kernel_rfl) (by kernel_rfl) (by kernel_rfl) (fun _ _ _ h => h) (by rfl) ?_ hHeld ?_
        rotate_left
        · intro w hSw; (try dsimp only at hSw); go_simp; with_reducible rfl
        try simp only [Act.put, List.setIfInBounds_toArray, List.set_cons_zero, List.set_cons_succ]
        refine wpAnyH_ready (rs := [4]) (by kernel_rfl) (by simp) (AllReadyH.cons rfl (fun K hK => ?_) AllReadyH.nil)
        go_simp
        go_at_call 27
        refine (Add_any x y _ _ _ VX VY 6 fx fy (by decide)).mono ?_; rintro e' wx2 ⟨v2, rfl, C2, hb2⟩
        have f2 : Fit 13 (x + y) := fit_add fx fy
        replace VX := VX.next hb2
        replace VY := VY.next hb2
        replace VZ := VZ.next hb2
        replace HP := HP.next hb2
        replace HB := below_chain HB hb2
        go_wp2_with fail
        refine hK.out _ _ (hKp _ _ hHeld hb2) (fun hHeld => ?_)
        clear hK K hb2
        try simp only [Act.put, List.setIfInBounds_toArray, List.set_cons_zero, List.set_cons_succ]
        refine wpAnyH_ready (rs := [7]) (by kernel_rfl) (by simp) (AllReadyH.cons rfl (fun K hK => ?_) AllReadyH.nil)
        go_simp
        go_at_call 27
        refine (Add_any y x _ _ _ VY VX 6 fy fx (by decide)).mono ?_; rintro e' wx3 ⟨v3, rfl, C3, hb3⟩
        have f3 : Fit 13 (y + x) := fit_add fy fx
        replace VX := VX.next hb3
        replace VY := VY.next hb3
        replace VZ := VZ.next hb3
        replace HP := HP.next hb3
        replace C2 := C2.next hb3
        replace HB := below_chain HB hb3
        go_wp2_with fail
        refine hK.out _ _ (hKp _ _ hHeld hb3) (fun hHeld => ?_)
        clear hK K hb3
        try simp only [Act.put, List.setIfInBounds_toArray, List.set_cons_zero, List.set_cons_succ]
        refine wpAnyH_ready (rs := [8]) (by kernel_rfl) (by simp) (AllReadyH.cons rfl (fun K hK => ?_) AllReadyH.nil)
        go_simp
        go_at_call 13
        refine (rSameE (x + y) (y + x) (Rat.add_comm _ _) _ _ _ C2 C3).mono ?_; rintro e' wx4 ⟨rfl, hb4⟩
        replace VX := VX.next hb4
        replace VY := VY.next hb4
        replace VZ := VZ.next hb4
        replace HP := HP.next hb4
        replace C2 := C2.next hb4
        replace C3 := C3.next hb4
        replace HB := below_chain HB hb4
        go_wp2_with fail
        refine hK.out _ _ (hKp _ _ hHeld hb4) (fun hHeld => ?_)
        clear hK K hb4
        try simp only [Act.put, List.setIfInBounds_toArray, List.set_cons_zero, List.set_cons_succ]
        refine held_take (i := 9) (d := 45) (v := ?_) rfl rfl (by kernel_rfl) (by kernel_rfl) (by kernel_rfl) (fun _ _ _ h => h) (by rfl) ?_ hHeld ?_
        rotate_left
        · intro w hSw; (try dsimp only at hSw); go_simp; with_reducible rfl
        try simp only [Act.put, List.setIfInBounds_toArray, List.set_cons_zero, List.set_cons_succ]
        refine held_take (i := 10) (d := 46) (v := ?_) rfl rfl (by kernel_rfl) (by kernel_rfl) (by kernel_rfl) (fun _ _ _ h => h) (by rfl) ?_ hHeld ?_
        rotate_left
        · intro w hSw; (try dsimp only at hSw); go_simp; with_reducible rfl
        try simp only [Act.put, List.setIfInBounds_toArray, List.set_cons_zero, List.set_cons_succ]
        refine held_take (i := 11) (d := 47) (v := ?_) rfl rfl (by kernel_rfl) (by kernel_rfl) (by kernel_rfl) (fun _ _ _ h => h) (by rfl) ?_ hHeld ?_
        rotate_left
        · intro w hSw; (try dsimp only at hSw); go_simp; with_reducible rfl
        try simp only [Act.put, List.setIfInBounds_toArray, List.set_cons_zero, List.set_cons_succ]
        refine held_take (i := 12) (d := 48) (v := ?_) rfl rfl (by kernel_rfl) (by kernel_rfl) (by kernel_rfl) (fun _ _ _ h => h) (by rfl) ?_ hHeld ?_
        rotate_left
        · intro w hSw; (try dsimp only at hSw); go_simp; with_reducible rfl
        try simp only [Act.put, List.setIfInBounds_toArray, List.set_cons_zero, List.set_cons_succ]
        refine held_take (i := 14) (d := 50) (v := ?_) rfl rfl (by kernel_rfl) (by kernel_rfl) (by kernel_rfl) (fun _ _ _ h => h) (by rfl) ?_ hHeld ?_
        rotate_left
        · intro w hSw; (try dsimp only at hSw); go_simp; with_reducible rfl
        try simp only [Act.put, List.setIfInBounds_toArray, List.set_cons_zero, List.set_cons_succ]
        refine held_take (i := 15) (d := 51) (v := ?_) rfl rfl (by kernel_rfl) (by kernel_rfl) (by kernel_rfl) (fun _ _ _ h => h) (by rfl) ?_ hHeld ?_
        rotate_left
        · intro w hSw; (try dsimp only at hSw); go_simp; with_reducible rfl
        try simp only [Act.put, List.setIfInBounds_toArray, List.set_cons_zero, List.set_cons_succ]
        refine wpAnyH_ready (rs := [13]) (by kernel_rfl) (by simp) (AllReadyH.cons rfl (fun K hK => ?_) AllReadyH.nil)
        go_simp
        go_at_call 31
        refine (Mul_any x y _ _ _ VX VY 6 fx fy (by decide)).mono ?_; rintro e' wx5 ⟨v5, rfl, C5, hb5⟩
        have f5 : Fit 12 (x * y) := fit_mul fx fy
        replace VX := VX.next hb5
        replace VY := VY.next hb5
        replace VZ := VZ.next hb5
        replace HP := HP.next hb5
        replace C2 := C2.next hb5
        replace C3 := C3.next hb5
        replace HB := below_chain HB hb5
        go_wp2_with fail
        refine hK.out _ _ (hKp _ _ hHeld hb5) (fun hHeld => ?_)
        clear hK K hb5
        try simp only [Act.put, List.setIfInBounds_toArray, List.set_cons_zero, List.set_cons_succ]
        refine wpAnyH_ready (rs := [16]) (by kernel_rfl) (by simp) (AllReadyH.cons rfl (fun K hK => ?_) AllReadyH.nil)
        go_simp
        go_at_call 31
        refine (Mul_any y x _ _ _ VY VX 6 fy fx (by decide)).mono ?_; rintro e' wx6 ⟨v6, rfl, C6, hb6⟩
        have f6 : Fit 12 (y * x) := fit_mul fy fx
        replace VX := VX.next hb6
        replace VY := VY.next hb6
        replace VZ := VZ.next hb6
        replace HP := HP.next hb6
        replace C2 := C2.next hb6
        replace C3 := C3.next hb6
        replace C5 := C5.next hb6
        replace HB := below_chain HB hb6
        go_wp2_with fail
        refine hK.out _ _ (hKp _ _ hHeld hb6) (fun hHeld => ?_)
        clear hK K hb6
        try simp only [Act.put, List.setIfInBounds_toArray, List.set_cons_zero, List.set_cons_succ]
        refine wpAnyH_ready (rs := [17]) (by kernel_rfl) (by simp) (AllReadyH.cons rfl (fun K hK => ?_) AllReadyH.nil)
        go_simp
        go_at_call 13
        refine (rSameE (x * y) (y * x) (Rat.mul_comm _ _) _ _ _ C5 C6).mono ?_; rintro e' wx7 ⟨rfl, hb7⟩
        replace VX := VX.next hb7
        replace VY := VY.next hb7
        replace VZ := VZ.next hb7
        replace HP := HP.next hb7
        replace C2 := C2.next hb7
        replace C3 := C3.next hb7
        replace C5 := C5.next hb7
        replace C6 := C6.next hb7
        replace HB := below_chain HB hb7
        go_wp2_with fail
        refine hK.out _ _ (hKp _ _ hHeld hb7) (fun hHeld => ?_)
        clear hK K hb7
        try simp only [Act.put, List.setIfInBounds_toArray, List.set_cons_zero, List.set_cons_succ]
        refine held_take (i := 18) (d := 54) (v := ?_) rfl rfl (by kernel_rfl) (by kernel_rfl) (by kernel_rfl) (fun _ _ _ h => h) (by rfl) ?_ hHeld ?_
        rotate_left
        · intro w hSw; (try dsimp only at hSw); go_simp; with_reducible rfl
        try simp only [Act.put, List.setIfInBounds_toArray, List.set_cons_zero, List.set_cons_succ]
        refine held_take (i := 19) (d := 55) (v := ?_) rfl rfl (by kernel_rfl) (by kernel_rfl) (by kernel_rfl) (fun _ _ _ h => h) (by rfl) ?_ hHeld ?_
        rotate_left
        · intro w hSw; (try dsimp only at hSw); go_simp; with_reducible rfl
        try simp only [Act.put, List.setIfInBounds_toArray, List.set_cons_zero, List.set_cons_succ]
        refine held_take (i := 20) (d := 56) (v := ?_) rfl rfl (by kernel_rfl) (by kernel_rfl) (by kernel_rfl) (fun _ _ _ h => h) (by rfl) ?_ hHeld ?_
        rotate_left
        · intro w hSw; (try dsimp only at hSw); go_simp; with_reducible rfl
        try simp only [Act.put, List.setIfInBounds_toArray, List.set_cons_zero, List.set_cons_succ]
        refine held_take (i := 21) (d := 57) (v := ?_) rfl rfl (by kernel_rfl) (by kernel_rfl) (by kernel_rfl) (fun _ _ _ h => h) (by rfl) ?_ hHeld ?_
        rotate_left
        · intro w hSw; (try dsimp only at hSw); go_simp; with_reducible rfl
        try simp only [Act.put, List.setIfInBounds_toArray, List.set_cons_zero, List.set_cons_succ]
        refine held_take (i := 23) (d := 59) (v := ?_) rfl rfl (by kernel_rfl) (by kernel_rfl) (by kernel_rfl) (fun _ _ _ h => h) (by rfl) ?_ hHeld ?_
        rotate_left
        · intro w hSw; (try dsimp only at hSw); go_simp; with_reducible rfl
        try simp only [Act.put, List.setIfInBounds_toArray, List.set_cons_zero, List.set_cons_succ]
        refine held_take (i := 25) (d := 61) (v := ?_) rfl rfl (by kernel_rfl) (by kernel_rfl) (by kernel_rfl) (fun _ _ _ h => h) (by rfl) ?_ hHeld ?_
        rotate_left
        · intro w hSw; (try dsimp only at hSw); go_simp; with_reducible rfl
        try simp only [Act.put, List.setIfInBounds_toArray, List.set_cons_zero, List.set_cons_succ]
        refine held_take (i := 26) (d := 62) (v := ?_) rfl rfl (by kernel_rfl) (by kernel_rfl) (by kernel_rfl) (fun _ _ _ h => h) (by rfl) ?_ hHeld ?_
        rotate_left
        · intro w hSw; (try dsimp only at hSw); go_simp; with_reducible rfl
        try simp only [Act.put, List.setIfInBounds_toArray, List.set_cons_zero, List.set_cons_succ]
        refine held_take (i := 27) (d := 63) (v := ?_) rfl rfl (by kernel_rfl) (by kernel_rfl) (by kernel_rfl) (fun _ _ _ h => h) (by rfl) ?_ hHeld ?_
        rotate_left
        · intro w hSw; (try dsimp only at hSw); go_simp; with_reducible rfl
        try simp only [Act.put, List.setIfInBounds_toArray, List.set_cons_zero, List.set_cons_succ]
        refine wpAnyH_ready (rs := [22]) (by kernel_rfl) (by simp) (AllReadyH.cons rfl (fun K hK => ?_) AllReadyH.nil)
        go_simp
        go_at_call 27
        refine (Add_any x y _ _ _ VX VY 6 fx fy (by decide)).mono ?_; rintro e' wx8 ⟨v8, rfl, C8, hb8⟩
        have f8 : Fit 13 (x + y) := fit_add fx fy
        replace VX := VX.next hb8
        replace VY := VY.next hb8
        replace VZ := VZ.next hb8
        replace HP := HP.next hb8
        replace C2 := C2.next hb8
        replace C3 := C3.next hb8
        replace C5 := C5.next hb8
        replace C6 := C6.next hb8
        replace HB := below_chain HB hb8
        go_wp2_with fail
        refine hK.out _ _ (hKp _ _ hHeld hb8) (fun hHeld => ?_)
        clear hK K hb8
        try simp only [Act.put, List.setIfInBounds_toArray, List.set_cons_zero, List.set_cons_succ]
        refine wpAnyH_ready (rs := [24]) (by kernel_rfl) (by simp) (AllReadyH.cons rfl (fun K hK => ?_) AllReadyH.nil)
        go_simp
        go_at_call 27
        refine (Add_any (x + y) z _ _ _ (C8.toV f8 (by decide)) VZ 13 f8 (fz.mono (by decide)) (by decide)).mono ?_; rintro e' wx9 ⟨v9, rfl, C9, hb9⟩
        have f9 : Fit 20 ((x + y) + z) := fit_add f8 fz
        replace VX := VX.next hb9
        replace VY := VY.next hb9
        replace VZ := VZ.next hb9
        replace HP := HP.next hb9
        replace C2 := C2.next hb9
        replace C3 := C3.next hb9
        replace C5 := C5.next hb9
        replace C6 := C6.next hb9
        replace C8 := C8.next hb9
        replace HB := below_chain HB hb9
        go_wp2_with fail
        refine hK.out _ _ (hKp _ _ hHeld hb9) (fun hHeld => ?_)
        clear hK K hb9
        try simp only [Act.put, List.setIfInBounds_toArray, List.set_cons_zero, List.set_cons_succ]
        refine wpAnyH_ready (rs := [28]) (by kernel_rfl) (by simp) (AllReadyH.cons rfl (fun K hK => ?_) AllReadyH.nil)
        go_simp
        go_at_call 27
        refine (Add_any y z _ _ _ VY VZ 6 fy fz (by decide)).mono ?_; rintro e' wx10 ⟨v10, rfl, C10, hb10⟩
        have f10 : Fit 13 (y + z) := fit_add fy fz
        replace VX := VX.next hb10
        replace VY := VY.next hb10
        replace VZ := VZ.next hb10
        replace HP := HP.next hb10
        replace C2 := C2.next hb10
        replace C3 := C3.next hb10
        replace C5 := C5.next hb10
        replace C6 := C6.next hb10
        replace C8 := C8.next hb10
        replace C9 := C9.next hb10
        replace HB := below_chain HB hb10
        go_wp2_with fail
        refine hK.out _ _ (hKp _ _ hHeld hb10) (fun hHeld => ?_)
        clear hK K hb10
        try simp only [Act.put, List.setIfInBounds_toArray, List.set_cons_zero, List.set_cons_succ]
        refine wpAnyH_ready (rs := [29]) (by kernel_rfl) (by simp) (AllReadyH.cons rfl (fun K hK => ?_) AllReadyH.nil)
        go_simp
        go_at_call 27
        refine (Add_any x (y + z) _ _ _ VX (C10.toV f10 (by decide)) 13 (fx.mono (by decide)) f10 (by decide)).mono ?_; rintro e' wx11 ⟨v11, rfl, C11, hb11⟩
        have f11 : Fit 20 (x + (y + z)) := fit_add fx f10
        replace VX := VX.next hb11
        replace VY := VY.next hb11
        replace VZ := VZ.next hb11
        replace HP := HP.next hb11
        replace C2 := C2.next hb11
        replace C3 := C3.next hb11
        replace C5 := C5.next hb11
        replace C6 := C6.next hb11
        replace C8 := C8.next hb11
        replace C9 := C9.next hb11
        replace C10 := C10.next hb11
        replace HB := below_chain HB hb11
        go_wp2_with fail
        refine hK.out _ _ (hKp _ _ hHeld hb11) (fun hHeld => ?_)
        clear hK K hb11
        try simp only [Act.put, List.setIfInBounds_toArray, List.set_cons_zero, List.set_cons_succ]
        refine wpAnyH_ready (rs := [30]) (by kernel_rfl) (by simp) (AllReadyH.cons rfl (fun K hK => ?_) AllReadyH.nil)
        go_simp
        go_at_call 13
        refine (rSameE ((x + y) + z) (x + (y + z)) (Rat.add_assoc _ _ _) _ _ _ C9 C11).mono ?_; rintro e' wx12 ⟨rfl, hb12⟩
        replace VX := VX.next hb12
        replace VY := VY.next hb12
        replace VZ := VZ.next hb12
        replace HP := HP.next hb12
        replace C2 := C2.next hb12
        replace C3 := C3.next hb12
        replace C5 := C5.next hb12
        replace C6 := C6.next hb12
        replace C8 := C8.next hb12
        replace C9 := C9.next hb12
        replace C10 := C10.next hb12
        replace C11 := C11.next hb12
        replace HB := below_chain HB hb12
        go_wp2_with fail
        refine hK.out _ _ (hKp _ _ hHeld hb12) (fun hHeld => ?_)
        clear hK K hb12
        try simp only [Act.put, List.setIfInBounds_toArray, List.set_cons_zero, List.set_cons_succ]
        refine held_take (i := 31) (d := 67) (v := ?_) rfl rfl (by kernel_rfl) (by kernel_rfl) (by kernel_rfl) (fun _ _ _ h => h) (by rfl) ?_ hHeld ?_
        rotate_left
        · intro w hSw; (try dsimp only at hSw); go_simp; with_reducible rfl
        try simp only [Act.put, List.setIfInBounds_toArray, List.set_cons_zero, List.set_cons_succ]
        refine held_take (i := 32) (d := 68) (v := ?_) rfl rfl (by kernel_rfl) (by kernel_rfl) (by kernel_rfl) (fun _ _ _ h => h) (by rfl) ?_ hHeld ?_
        rotate_left
        · intro w hSw; (try dsimp only at hSw); go_simp; with_reducible rfl
        try simp only [Act.put, List.setIfInBounds_toArray, List.set_cons_zero, List.set_cons_succ]
        refine held_take (i := 33) (d := 69) (v := ?_) rfl rfl (by kernel_rfl) (by kernel_rfl) (by kernel_rfl) (fun _ _ _ h => h) (by rfl) ?_ hHeld ?_
        rotate_left
        · intro w hSw; (try dsimp only at hSw); go_simp; with_reducible rfl
        try simp only [Act.put, List.setIfInBounds_toArray, List.set_cons_zero, List.set_cons_succ]
        refine held_take (i := 34) (d := 70) (v := ?_) rfl rfl (by kernel_rfl) (by kernel_rfl) (by kernel_rfl) (fun _ _ _ h => h) (by rfl) ?_ hHeld ?_
        rotate_left
        · intro w hSw; (try dsimp only at hSw); go_simp; with_reducible rfl
        try simp only [Act.put, List.setIfInBounds_toArray, List.set_cons_zero, List.set_cons_succ]
        refine held_take (i := 36) (d := 72) (v := ?_) rfl rfl (by kernel_rfl) (by kernel_rfl) (by kernel_rfl) (fun _ _ _ h => h) (by rfl) ?_ hHeld ?_
        rotate_left
        · intro w hSw; (try dsimp only at hSw); go_simp; with_reducible rfl
        try simp only [Act.put, List.setIfInBounds_toArray, List.set_cons_zero, List.set_cons_succ]
        refine held_take (i := 38) (d := 74) (v := ?_) rfl rfl (by kernel_rfl) (by kernel_rfl) (by kernel_rfl) (fun _ _ _ h => h) (by rfl) ?_ hHeld ?_
        rotate_left
        · intro w hSw; (try dsimp only at hSw); go_simp; with_reducible rfl
        try simp only [Act.put, List.setIfInBounds_toArray, List.set_cons_zero, List.set_cons_succ]
        refine held_take (i := 39) (d := 75) (v := ?_) rfl rfl (by kernel_rfl) (by kernel_rfl) (by kernel_rfl) (fun _ _ _ h => h) (by rfl) ?_ hHeld ?_
        rotate_left
        · intro w hSw; (try dsimp only at hSw); go_simp; with_reducible rfl
        try simp only [Act.put, List.setIfInBounds_toArray, List.set_cons_zero, List.set_cons_succ]
        refine held_take (i := 40) (d := 76) (v := ?_) rfl rfl (by kernel_rfl) (by kernel_rfl) (by kernel_rfl) (fun _ _ _ h => h) (by rfl) ?_ hHeld ?_
        rotate_left
        · intro w hSw; (try dsimp only at hSw); go_simp; with_reducible rfl
        try simp only [Act.put, List.setIfInBounds_toArray, List.set_cons_zero, List.set_cons_succ]
        refine wpAnyH_ready (rs := [35]) (by kernel_rfl) (by simp) (AllReadyH.cons rfl (fun K hK => ?_) AllReadyH.nil)
        go_simp
        go_at_call 31
        refine (Mul_any x y _ _ _ VX VY 6 fx fy (by decide)).mono ?_; rintro e' wx13 ⟨v13, rfl, C13, hb13⟩
        have f13 : Fit 12 (x * y) := fit_mul fx fy
        replace VX := VX.next hb13
        replace VY := VY.next hb13
        replace VZ := VZ.next hb13
        replace HP := HP.next hb13
        replace C2 := C2.next hb13
        replace C3 := C3.next hb13
        replace C5 := C5.next hb13
        replace C6 := C6.next hb13
        replace C8 := C8.next hb13
        replace C9 := C9.next hb13
        replace C10 := C10.next hb13
        replace C11 := C11.next hb13
        replace HB := below_chain HB hb13
        go_wp2_with fail
        refine hK.out _ _ (hKp _ _ hHeld hb13) (fun hHeld => ?_)
        clear hK K hb13
        try simp only [Act.put, List.setIfInBounds_toArray, List.set_cons_zero, List.set_cons_succ]
        refine wpAnyH_ready (rs := [37]) (by kernel_rfl) (by simp) (AllReadyH.cons rfl (fun K hK => ?_) AllReadyH.nil)
        go_simp
        go_at_call 31
        refine (Mul_any (x * y) z _ _ _ (C13.toV f13 (by decide)) VZ 12 f13 (fz.mono (by decide)) (by decide)).mono ?_; rintro e' wx14 ⟨v14, rfl, C14, hb14⟩
        have f14 : Fit 18 ((x * y) * z) := fit_mul f13 fz
        replace VX := VX.next hb14
        replace VY := VY.next hb14
        replace VZ := VZ.next hb14
        replace HP := HP.next hb14
        replace C2 := C2.next hb14
        replace C3 := C3.next hb14
        replace C5 := C5.next hb14
        replace C6 := C6.next hb14
        replace C8 := C8.next hb14
        replace C9 := C9.next hb14
        replace C10 := C10.next hb14
        replace C11 := C11.next hb14
        replace C13 := C13.next hb14
        replace HB := below_chain HB hb14
        go_wp2_with fail
        refine hK.out _ _ (hKp _ _ hHeld hb14) (fun hHeld => ?_)
        clear hK K hb14
        try simp only [Act.put, List.setIfInBounds_toArray, List.set_cons_zero, List.set_cons_succ]
        refine wpAnyH_ready (rs := [41]) (by kernel_rfl) (by simp) (AllReadyH.cons rfl (fun K hK => ?_) AllReadyH.nil)
        go_simp
        go_at_call 31
        refine (Mul_any y z _ _ _ VY VZ 6 fy fz (by decide)).mono ?_; rintro e' wx15 ⟨v15, rfl, C15, hb15⟩
        have f15 : Fit 12 (y * z) := fit_mul fy fz
        replace VX := VX.next hb15
        replace VY := VY.next hb15
        replace VZ := VZ.next hb15
        replace HP := HP.next hb15
        replace C2 := C2.next hb15
        replace C3 := C3.next hb15
        replace C5 := C5.next hb15
        replace C6 := C6.next hb15
        replace C8 := C8.next hb15
        replace C9 := C9.next hb15
        replace C10 := C10.next hb15
        replace C11 := C11.next hb15
        replace C13 := C13.next hb15
        replace C14 := C14.next hb15
        replace HB := below_chain HB hb15
        go_wp2_with fail
        refine hK.out _ _ (hKp _ _ hHeld hb15) (fun hHeld => ?_)
        clear hK K hb15
        try simp only [Act.put, List.setIfInBounds_toArray, List.set_cons_zero, List.set_cons_succ]
        refine wpAnyH_ready (rs := [42]) (by kernel_rfl) (by simp) (AllReadyH.cons rfl (fun K hK => ?_) AllReadyH.nil)
        go_simp
        go_at_call 31
        refine (Mul_any x (y * z) _ _ _ VX (C15.toV f15 (by decide)) 12 (fx.mono (by decide)) f15 (by decide)).mono ?_; rintro e' wx16 ⟨v16, rfl, C16, hb16⟩
        have f16 : Fit 18 (x * (y * z)) := fit_mul fx f15
        replace VX := VX.next hb16
        replace VY := VY.next hb16
        replace VZ := VZ.next hb16
        replace HP := HP.next hb16
        replace C2 := C2.next hb16
        replace C3 := C3.next hb16
        replace C5 := C5.next hb16
        replace C6 := C6.next hb16
        replace C8 := C8.next hb16
        replace C9 := C9.next hb16
        replace C10 := C10.next hb16
        replace C11 := C11.next hb16
        replace C13 := C13.next hb16
        replace C14 := C14.next hb16
        replace C15 := C15.next hb16
        replace HB := below_chain HB hb16
        go_wp2_with fail
        refine hK.out _ _ (hKp _ _ hHeld hb16) (fun hHeld => ?_)
        clear hK K hb16
        try simp only [Act.put, List.setIfInBounds_toArray, List.set_cons_zero, List.set_cons_succ]
        refine wpAnyH_ready (rs := [43]) (by kernel_rfl) (by simp) (AllReadyH.cons rfl (fun K hK => ?_) AllReadyH.nil)
        go_simp
        go_at_call 13
        refine (rSameE ((x * y) * z) (x * (y * z)) (Rat.mul_assoc _ _ _) _ _ _ C14 C16).mono ?_; rintro e' wx17 ⟨rfl, hb17⟩
        replace VX := VX.next hb17
        replace VY := VY.next hb17
        replace VZ := VZ.next hb17
        replace HP := HP.next hb17
        replace C2 := C2.next hb17
        replace C3 := C3.next hb17
        replace C5 := C5.next hb17
        replace C6 := C6.next hb17
        replace C8 := C8.next hb17
        replace C9 := C9.next hb17
        replace C10 := C10.next hb17
        replace C11 := C11.next hb17
        replace C13 := C13.next hb17
        replace C14 := C14.next hb17
        replace C15 := C15.next hb17
        replace C16 := C16.next hb17
        replace HB := below_chain HB hb17
        go_wp2_with fail
        refine hK.out _ _ (hKp _ _ hHeld hb17) (fun hHeld => ?_)
        clear hK K hb17
        try simp only [Act.put, List.setIfInBounds_toArray, List.set_cons_zero, List.set_cons_succ]
        refine held_take (i := 44) (d := 80) (v := ?_) rfl rfl (by kernel_rfl) (by kernel_rfl) (by kernel_rfl) (fun _ _ _ h => h) (by rfl) ?_ hHeld ?_
        rotate_left
        · intro w hSw; (try dsimp only at hSw); go_simp; with_reducible rfl
        try simp only [Act.put, List.setIfInBounds_toArray, List.set_cons_zero, List.set_cons_succ]
        refine held_take (i := 45) (d := 81) (v := ?_) rfl rfl (by kernel_rfl) (by kernel_rfl) (by kernel_rfl) (fun _ _ _ h => h) (by rfl) ?_ hHeld ?_
        rotate_left
        · intro w hSw; (try dsimp only at hSw); go_simp; with_reducible rfl
        try simp only [Act.put, List.setIfInBounds_toArray, List.set_cons_zero, List.set_cons_succ]
        refine held_take (i := 46) (d := 82) (v := ?_) rfl rfl (by kernel_rfl) (by kernel_rfl) (by kernel_rfl) (fun _ _ _ h => h) (by rfl) ?_ hHeld ?_
        rotate_left
        · intro w hSw; (try dsimp only at hSw); go_simp; with_reducible rfl
        try simp only [Act.put, List.setIfInBounds_toArray, List.set_cons_zero, List.set_cons_succ]
        refine held_take (i := 47) (d := 83) (v := ?_) rfl rfl (by kernel_rfl) (by kernel_rfl) (by kernel_rfl) (fun _ _ _ h => h) (by rfl) ?_ hHeld ?_
        rotate_left
        · intro w hSw; (try dsimp only at hSw); go_simp; with_reducible rfl
        try simp only [Act.put, List.setIfInBounds_toArray, List.set_cons_zero, List.set_cons_succ]
        refine held_take (i := 48) (d := 84) (v := ?_) rfl rfl (by kernel_rfl) (by kernel_rfl) (by kernel_rfl) (fun _ _ _ h => h) (by rfl) ?_ hHeld ?_
        rotate_left
        · intro w hSw; (try dsimp only at hSw); go_simp; with_reducible rfl
        try simp only [Act.put, List.setIfInBounds_toArray, List.set_cons_zero, List.set_cons_succ]
        refine held_take (i := 51) (d := 87) (v := ?_) rfl rfl (by kernel_rfl) (by kernel_rfl) (by kernel_rfl) (fun _ _ _ h => h) (by rfl) ?_ hHeld ?_
        rotate_left
        · intro w hSw; (try dsimp only at hSw); go_simp; with_reducible rfl
        try simp only [Act.put, List.setIfInBounds_toArray, List.set_cons_zero, List.set_cons_succ]
        refine held_take (i := 52) (d := 88) (v := ?_) rfl rfl (by kernel_rfl) (by kernel_rfl) (by kernel_rfl) (fun _ _ _ h => h) (by rfl) ?_ hHeld ?_
        rotate_left
        · intro w hSw; (try dsimp only at hSw); go_simp; with_reducible rfl
        try simp only [Act.put, List.setIfInBounds_toArray, List.set_cons_zero, List.set_cons_succ]
        refine held_take (i := 54) (d := 90) (v := ?_) rfl rfl (by kernel_rfl) (by kernel_rfl) (by kernel_rfl) (fun _ _ _ h => h) (by rfl) ?_ hHeld ?_
        rotate_left
        · intro w hSw; (try dsimp only at hSw); go_simp; with_reducible rfl
        try simp only [Act.put, List.setIfInBounds_toArray, List.set_cons_zero, List.set_cons_succ]
        refine held_take (i := 55) (d := 91) (v := ?_) rfl rfl (by kernel_rfl) (by kernel_rfl) (by kernel_rfl) (fun _ _ _ h => h) (by rfl) ?_ hHeld ?_
        rotate_left
        · intro w hSw; (try dsimp only at hSw); go_simp; with_reducible rfl
        try simp only [Act.put, List.setIfInBounds_toArray, List.set_cons_zero, List.set_cons_succ]
        refine wpAnyH_ready (rs := [49]) (by kernel_rfl) (by simp) (AllReadyH.cons rfl (fun K hK => ?_) AllReadyH.nil)
        go_simp
        go_at_call 27
        refine (Add_any y z _ _ _ VY VZ 6 fy fz (by decide)).mono ?_; rintro e' wx18 ⟨v18, rfl, C18, hb18⟩
        have f18 : Fit 13 (y + z) := fit_add fy fz
        replace VX := VX.next hb18
        replace VY := VY.next hb18
        replace VZ := VZ.next hb18
        replace HP := HP.next hb18
        replace C2 := C2.next hb18
        replace C3 := C3.next hb18
        replace C5 := C5.next hb18
        replace C6 := C6.next hb18
        replace C8 := C8.next hb18
        replace C9 := C9.next hb18
        replace C10 := C10.next hb18
        replace C11 := C11.next hb18
        replace C13 := C13.next hb18
        replace C14 := C14.next hb18
        replace C15 := C15.next hb18
        replace C16 := C16.next hb18
        replace HB := below_chain HB hb18
        go_wp2_with fail
        refine hK.out _ _ (hKp _ _ hHeld hb18) (fun hHeld => ?_)
        clear hK K hb18
        try simp only [Act.put, List.setIfInBounds_toArray, List.set_cons_zero, List.set_cons_succ]
        refine wpAnyH_ready (rs := [50]) (by kernel_rfl) (by simp) (AllReadyH.cons rfl (fun K hK => ?_) AllReadyH.nil)
        go_simp
        go_at_call 31
        refine (Mul_any x (y + z) _ _ _ VX (C18.toV f18 (by decide)) 13 (fx.mono (by decide)) f18 (by decide)).mono ?_; rintro e' wx19 ⟨v19, rfl, C19, hb19⟩
        have f19 : Fit 19 (x * (y + z)) := fit_mul fx f18
        replace VX := VX.next hb19
        replace VY := VY.next hb19
        replace VZ := VZ.next hb19
        replace HP := HP.next hb19
        replace C2 := C2.next hb19
        replace C3 := C3.next hb19
        replace C5 := C5.next hb19
        replace C6 := C6.next hb19
        replace C8 := C8.next hb19
        replace C9 := C9.next hb19
        replace C10 := C10.next hb19
        replace C11 := C11.next hb19
        replace C13 := C13.next hb19
        replace C14 := C14.next hb19
        replace C15 := C15.next hb19
        replace C16 := C16.next hb19
        replace C18 := C18.next hb19
        replace HB := below_chain HB hb19
        go_wp2_with fail
        refine hK.out _ _ (hKp _ _ hHeld hb19) (fun hHeld => ?_)
        clear hK K hb19
        try simp only [Act.put, List.setIfInBounds_toArray, List.set_cons_zero, List.set_cons_succ]
        refine wpAnyH_ready (rs := [53]) (by kernel_rfl) (by simp) (AllReadyH.cons rfl (fun K hK => ?_) AllReadyH.nil)
        go_simp
        go_at_call 31
        refine (Mul_any x y _ _ _ VX VY 6 fx fy (by decide)).mono ?_; rintro e' wx20 ⟨v20, rfl, C20, hb20⟩
        have f20 : Fit 12 (x * y) := fit_mul fx fy
        replace VX := VX.next hb20
        replace VY := VY.next hb20
        replace VZ := VZ.next hb20
        replace HP := HP.next hb20
        replace C2 := C2.next hb20
        replace C3 := C3.next hb20
        replace C5 := C5.next hb20
        replace C6 := C6.next hb20
        replace C8 := C8.next hb20
        replace C9 := C9.next hb20
        replace C10 := C10.next hb20
        replace C11 := C11.next hb20
        replace C13 := C13.next hb20
        replace C14 := C14.next hb20
        replace C15 := C15.next hb20
        replace C16 := C16.next hb20
        replace C18 := C18.next hb20
        replace C19 := C19.next hb20
        replace HB := below_chain HB hb20
        go_wp2_with fail
        refine hK.out _ _ (hKp _ _ hHeld hb20) (fun hHeld => ?_)
        clear hK K hb20
        try simp only [Act.put, List.setIfInBounds_toArray, List.set_cons_zero, List.set_cons_succ]
        refine wpAnyH_ready (rs := [56]) (by kernel_rfl) (by simp) (AllReadyH.cons rfl (fun K hK => ?_) AllReadyH.nil)
        go_simp
        go_at_call 31
        refine (Mul_any x z _ _ _ VX VZ 6 fx fz (by decide)).mono ?_; rintro e' wx21 ⟨v21, rfl, C21, hb21⟩
        have f21 : Fit 12 (x * z) := fit_mul fx fz
        replace VX := VX.next hb21
        replace VY := VY.next hb21
        replace VZ := VZ.next hb21
        replace HP := HP.next hb21
        replace C2 := C2.next hb21
        replace C3 := C3.next hb21
        replace C5 := C5.next hb21
        replace C6 := C6.next hb21
        replace C8 := C8.next hb21
        replace C9 := C9.next hb21
        replace C10 := C10.next hb21
        replace C11 := C11.next hb21
        replace C13 := C13.next hb21
        replace C14 := C14.next hb21
        replace C15 := C15.next hb21
        replace C16 := C16.next hb21
        replace C18 := C18.next hb21
        replace C19 := C19.next hb21
        replace C20 := C20.next hb21
        replace HB := below_chain HB hb21
        go_wp2_with fail
        refine hK.out _ _ (hKp _ _ hHeld hb21) (fun hHeld => ?_)
        clear hK K hb21
        try simp only [Act.put, List.setIfInBounds_toArray, List.set_cons_zero, List.set_cons_succ]
        refine wpAnyH_ready (rs := [57]) (by kernel_rfl) (by simp) (AllReadyH.cons rfl (fun K hK => ?_) AllReadyH.nil)
        go_simp
        go_at_call 27
        refine (Add_any (x * y) (x * z) _ _ _ (C20.toV f20 (by decide)) (C21.toV f21 (by decide)) 12 f20 f21 (by decide)).mono ?_; rintro e' wx22 ⟨v22, rfl, C22, hb22⟩
        have f22 : Fit 25 ((x * y) + (x * z)) := fit_add f20 f21
        replace VX := VX.next hb22
        replace VY := VY.next hb22
        replace VZ := VZ.next hb22
        replace HP := HP.next hb22
        replace C2 := C2.next hb22
        replace C3 := C3.next hb22
        replace C5 := C5.next hb22
        replace C6 := C6.next hb22
        replace C8 := C8.next hb22
        replace C9 := C9.next hb22
        replace C10 := C10.next hb22
        replace C11 := C11.next hb22
        replace C13 := C13.next hb22
        replace C14 := C14.next hb22
        replace C15 := C15.next hb22
        replace C16 := C16.next hb22
        replace C18 := C18.next hb22
        replace C19 := C19.next hb22
        replace C20 := C20.next hb22
        replace C21 := C21.next hb22
        replace HB := below_chain HB hb22
        go_wp2_with fail
        refine hK.out _ _ (hKp _ _ hHeld hb22) (fun hHeld => ?_)
        clear hK K hb22
        try simp only [Act.put, List.setIfInBounds_toArray, List.set_cons_zero, List.set_cons_succ]
        refine wpAnyH_ready (rs := [58]) (by kernel_rfl) (by simp) (AllReadyH.cons rfl (fun K hK => ?_) AllReadyH.nil)
        go_simp
        go_at_call 13
        refine (rSameE (x * (y + z)) ((x * y) + (x * z)) (Rat.mul_add _ _ _) _ _ _ C19 C22).mono ?_; rintro e' wx23 ⟨rfl, hb23⟩
        replace VX := VX.next hb23
        replace VY := VY.next hb23
        replace VZ := VZ.next hb23
        replace HP := HP.next hb23
        replace C2 := C2.next hb23
        replace C3 := C3.next hb23
        replace C5 := C5.next hb23
        replace C6 := C6.next hb23
        replace C8 := C8.next hb23
        replace C9 := C9.next hb23
        replace C10 := C10.next hb23
        replace C11 := C11.next hb23
        replace C13 := C13.next hb23
        replace C14 := C14.next hb23
        replace C15 := C15.next hb23
        replace C16 := C16.next hb23
        replace C18 := C18.next hb23
        replace C19 := C19.next hb23
        replace C20 := C20.next hb23
        replace C21 := C21.next hb23
        replace C22 := C22.next hb23
        replace HB := below_chain HB hb23
        go_wp2_with fail
        refine hK.out _ _ (hKp _ _ hHeld hb23) (fun hHeld => ?_)
        clear hK K hb23
        try simp only [Act.put, List.setIfInBounds_toArray, List.set_cons_zero, List.set_cons_succ]
        refine held_take (i := 59) (d := 95) (v := ?_) rfl rfl (by kernel_rfl) (by kernel_rfl) (by kernel_rfl) (fun _ _ _ h => h) (by rfl) ?_ hHeld ?_
        rotate_left
        · intro w hSw; (try dsimp only at hSw); go_simp; with_reducible rfl
        try simp only [Act.put, List.setIfInBounds_toArray, List.set_cons_zero, List.set_cons_succ]
        refine held_take (i := 60) (d := 96) (v := ?_) rfl rfl (by kernel_rfl) (by kernel_rfl) (by kernel_rfl) (fun _ _ _ h => h) (by rfl) ?_ hHeld ?_
        rotate_left
        · intro w hSw; (try dsimp only at hSw); go_simp; with_reducible rfl
        try simp only [Act.put, List.setIfInBounds_toArray, List.set_cons_zero, List.set_cons_succ]
        refine held_take (i := 61) (d := 97) (v := ?_) rfl rfl (by kernel_rfl) (by kernel_rfl) (by kernel_rfl) (fun _ _ _ h => h) (by rfl) ?_ hHeld ?_
        rotate_left
        · intro w hSw; (try dsimp only at hSw); go_simp; with_reducible rfl
        try simp only [Act.put, List.setIfInBounds_toArray, List.set_cons_zero, List.set_cons_succ]
        refine held_take (i := 62) (d := 98) (v := ?_) rfl rfl (by kernel_rfl) (by kernel_rfl) (by kernel_rfl) (fun _ _ _ h => h) (by rfl) ?_ hHeld ?_
        rotate_left
        · intro w hSw; (try dsimp only at hSw); go_simp; with_reducible rfl
        try simp only [Act.put, List.setIfInBounds_toArray, List.set_cons_zero, List.set_cons_succ]
        refine wpAnyH_ready (rs := [63]) (by kernel_rfl) (by simp) (AllReadyH.cons rfl (fun K hK => ?_) AllReadyH.nil)
        go_simp
        go_at_call 29
        refine (Sub_any x x _ _ _ VX VX 6 fx fx (by decide)).mono ?_; rintro e' wx24 ⟨v24, rfl, C24, hb24⟩
        have f24 : Fit 13 (x - x) := fit_sub fx fx
        replace VX := VX.next hb24
        replace VY := VY.next hb24
        replace VZ := VZ.next hb24
        replace HP := HP.next hb24
        replace C2 := C2.next hb24
        replace C3 := C3.next hb24
        replace C5 := C5.next hb24
        replace C6 := C6.next hb24
        replace C8 := C8.next hb24
        replace C9 := C9.next hb24
        replace C10 := C10.next hb24
        replace C11 := C11.next hb24
        replace C13 := C13.next hb24
        replace C14 := C14.next hb24
        replace C15 := C15.next hb24
        replace C16 := C16.next hb24
        replace C18 := C18.next hb24
        replace C19 := C19.next hb24
        replace C20 := C20.next hb24
        replace C21 := C21.next hb24
        replace C22 := C22.next hb24
        replace HB := below_chain HB hb24
        go_wp2_with fail
        refine hK.out _ _ (hKp _ _ hHeld hb24) (fun hHeld => ?_)
        clear hK K hb24
        try simp only [Act.put, List.setIfInBounds_toArray, List.set_cons_zero, List.set_cons_succ]
        refine wpAnyH_ready (rs := [64]) (by kernel_rfl) (by simp) (AllReadyH.cons rfl (fun K hK => ?_) AllReadyH.nil)
        go_simp
        go_at_call 37
        refine (Sign_any (x - x) _ _ (C24.toV f24 (by decide))).mono ?_; rw [rsg_self]; rintro e' wx25 ⟨rfl, hb25⟩
        replace VX := VX.next hb25
        replace VY := VY.next hb25
        replace VZ := VZ.next hb25
        replace HP := HP.next hb25
        replace C2 := C2.next hb25
        replace C3 := C3.next hb25
        replace C5 := C5.next hb25
        replace C6 := C6.next hb25
        replace C8 := C8.next hb25
        replace C9 := C9.next hb25
        replace C10 := C10.next hb25
        replace C11 := C11.next hb25
        replace C13 := C13.next hb25
        replace C14 := C14.next hb25
        replace C15 := C15.next hb25
        replace C16 := C16.next hb25
        replace C18 := C18.next hb25
        replace C19 := C19.next hb25
        replace C20 := C20.next hb25
        replace C21 := C21.next hb25
        replace C22 := C22.next hb25
        replace C24 := C24.next hb25
        replace HB := below_chain HB hb25
        go_wp2_with fail
        refine hK.out _ _ (hKp _ _ hHeld hb25) (fun hHeld => ?_)
        clear hK K hb25
        try simp only [Act.put, List.setIfInBounds_toArray, List.set_cons_zero, List.set_cons_succ]
        refine held_take (i := 65) (d := 101) (v := ?_) rfl rfl (by kernel_rfl) (by kernel_rfl) (by kernel_rfl) (fun _ _ _ h => h) (by rfl) ?_ hHeld ?_
        rotate_left
        · intro w hSw; (try dsimp only at hSw); go_simp; with_reducible rfl
        try simp only [Act.put, List.setIfInBounds_toArray, List.set_cons_zero, List.set_cons_succ]
        refine held_take (i := 66) (d := 102) (v := ?_) rfl rfl (by kernel_rfl) (by kernel_rfl) (by kernel_rfl) (fun _ _ _ h => h) (by rfl) ?_ hHeld ?_
        rotate_left
        · intro w hSw; (try dsimp only at hSw); go_simp; with_reducible rfl
        try simp only [Act.put, List.setIfInBounds_toArray, List.set_cons_zero, List.set_cons_succ]
        refine held_take (i := 67) (d := 6) (v := ?_) rfl rfl (by kernel_rfl) (by kernel_rfl) (by kernel_rfl) (fun _ _ _ h => h) (by rfl) ?_ hHeld ?_
        rotate_left
        · intro w hSw; (try dsimp only at hSw); go_simp; with_reducible rfl
        try simp only [Act.put, List.setIfInBounds_toArray, List.set_cons_zero, List.set_cons_succ]
        refine wpAnyH_done (by kernel_rfl) ?_ _
        go_wp2_with fail
        go_ret
        exact ⟨rfl, HB⟩

end Go.Proofs.YtjppjhjfogjhaaaGreatDoor
