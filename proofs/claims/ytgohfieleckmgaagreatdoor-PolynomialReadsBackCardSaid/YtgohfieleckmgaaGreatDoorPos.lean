/-
  The contract of Star of package polynomial. No condition but sizes.
-/
import Derived.Test.YtgohfieleckmgaaGreatDoorPoh
import Derived.Test.YtgohfieleckmgaaGreatDoorPlyS
import Derived.Deep.LoopGhost
namespace Go.Proofs.YtgohfieleckmgaaGreatDoor
open Go.RowKit
set_option linter.unusedSimpArgs false
set_option linter.unusedVariables false

/-- A polynomial and an error code come back. -/
def StarOut (w : World) (P : Pl) (c : Int) (e : Ending) (w' : World) : Prop := ∃ ao cap, e = .returned (.tuple #[.slice ao (lst P).length cap, .int .i64 c]) ∧ PolC w' ao cap P ∧ Below w.heap.size w w'

/-- Behind the division: t in a variable of its own. -/
def StarCut (w : World) (G4 : Nat) (x4 y4 z4 : Value) (t c : Rat) (v5 : Value) (wx : World) : Prop :=
  ∃ G5 s xo xn xc yo yn yc, v5 = .pointer (some ⟨G5, 0, none⟩) ∧ C3 G5 (.bool s) (.slice xo xn xc) (.slice yo yn yc) wx ∧ RatC wx (.agg #[.bool s, .slice xo xn xc, .slice yo yn yc]) t ∧ C3 G4 x4 y4 z4 wx ∧ RatC wx (.agg #[x4, y4, z4]) c ∧ Below w.heap.size w wx

set_option maxRecDepth 10000 in
set_option maxHeartbeats 8000000 in
theorem pStar_any (P : Pl) (v : Value) (w : World) (h : PolV w v P) (k : Nat) (hP : FitP k P) (hk : k ≤ 30) (hl : (lst P).length ≤ 4) : Calls Tryz.prog 26 #[v] w (StarOut w (starR P) (starE P)) := by
  obtain ⟨ao, n, cap, _, rfl, _⟩ := id h
  have hlow := hid (pLowest_any P _ w h k hP (by omega))
  have hf0 : Fit k (P (0, 0, 0)) := hP (0, 0, 0) (by decide)
  have Hf0 := hid hf0
  have hsg := hid (starOk_sg P)
  have hPV := hid h
  have hPk := hid hP
  have hsz := hid (star_sizes hP hk hl)
  have hlen := hid (Nat.le_trans (step_len P) hl)
  have h30 := hk
  obtain ⟨c, hc⟩ : ∃ c, P (0, 0, 0) = c := ⟨_, rfl⟩
  rw [hc] at hlow hf0 hsg
  have Hc := hid hc
  obtain ⟨g, hg⟩ : ∃ g, rsg (absQ c - 1) = g := ⟨_, rfl⟩
  rw [hg] at hsg
  have Hg := hid hg
  have hfc := hid hf0
  cases hok : starOk P with
  | false =>
    have hE : Hid (starE P = 7) := hid (by unfold starE; rw [hok]; rfl)
    have hR : Hid (starR P = fun _ => 0) := hid (by unfold starR; rw [hok]; rfl)
    have c1 : decide (0 ≤ g) = true := by rw [hsg.out, hok]; rfl
    clear hok hsg h hP hl hf0 hc hg hk
    go_enter Tryz.func26, Tryz.ntmps26
    go_wp2_with fail
    refine hlow.out.mono ?_; rintro e w1 ⟨v1, rfl, C1, hb1⟩
    obtain ⟨rb, ro, rn, rc, so, sn, sc, rfl⟩ := C1.shape
    have hba : Below w1.heap.size w1 (w1.alloc (.cells #[.bool rb, .slice ro rn rc, .slice so sn sc] 25)) := below_alloc _
    obtain ⟨d0, d1, d2⟩ : C3 w1.heap.size (.bool rb) (.slice ro rn rc) (.slice so sn sc) (w1.alloc (.cells #[.bool rb, .slice ro rn rc, .slice so sn sc] 25)) := C3.here w1 _ rfl
    have C1a := (C1.next hba).toV hfc.out (by omega)
    have hbela := below_chain hb1 hba
    go_wp2_with fail
    refine (Abs_any c _ _ C1a k hfc.out (by omega)).mono ?_; rintro e w2 ⟨v2, rfl, C2, hb2⟩
    obtain ⟨qb, qo, qn, qc, uo, un, uc, rfl⟩ := C2.shape
    go_wp2_with fail
    refine (int1_any _).mono ?_; rintro e w3 ⟨v3, rfl, C3', hb3⟩
    obtain ⟨tb, t0, tn, tc, po, pn, pc, rfl⟩ := C3'.shape
    have C2V := (C2.next hb3).toV (fit_abs hfc.out) (by omega)
    have C3V := C3'.toV (fit_one hfc.out.pos) (k := k) (by omega)
    go_wp2_with fail
    refine (Compare_any (absQ c) 1 _ _ _ C2V C3V k (fit_abs hfc.out) (fit_one hfc.out.pos) (by omega)).mono ?_; rw [Hg.out]; rintro e w4 ⟨rfl, hb4⟩
    have hbel4 := below_chain (below_chain (below_chain hbela hb2) hb3) hb4
    go_wp2_with fail
    go_ret2
    rw [hE.out, hR.out]
    exact ⟨none, 0, by rw [lst_zero]; rfl, by unfold PolC; rw [lst_zero]; exact Pol.nil _ _, hbel4⟩
  | true =>
    have hE : Hid (starE P = 0) := hid (by unfold starE; rw [hok]; rfl)
    have hR : Hid (starR P = starP P) := hid (by unfold starR; rw [hok]; rfl)
    have c1 : decide (0 ≤ g) = false := by rw [hsg.out, hok]; rfl
    have hden : Hid (1 - c ≠ 0) := hid (by rw [← hc]; exact star_den hok)
    have hdv : Hid (divErr (1 - c) = 0) := hid (by unfold divErr; rw [if_neg hden.out])
    have hT : Hid (1 / (1 - c) = starT P) := hid (by rw [← hc])
    have hTne := hid (starT_ne hok)
    clear hok hsg h hP hl hf0 hc hg hk
    go_enter Tryz.func26, Tryz.ntmps26
    go_wp2_with fail
    refine hlow.out.mono ?_; rintro e w1 ⟨v1, rfl, C1, hb1⟩
    obtain ⟨rb, ro, rn, rc, so, sn, sc, rfl⟩ := C1.shape
    have hba : Below w1.heap.size w1 (w1.alloc (.cells #[.bool rb, .slice ro rn rc, .slice so sn sc] 25)) := below_alloc _
    have hD : C3 w1.heap.size (.bool rb) (.slice ro rn rc) (.slice so sn sc) (w1.alloc (.cells #[.bool rb, .slice ro rn rc, .slice so sn sc] 25)) := C3.here w1 _ rfl
    have HD := hid hD
    obtain ⟨d0, d1, d2⟩ := hD
    have C1a := C1.next hba
    have C1V := C1a.toV hfc.out (by omega)
    have hbela := below_chain hb1 hba
    go_wp2_with fail
    refine (Abs_any c _ _ C1V k hfc.out (by omega)).mono ?_; rintro e w2 ⟨v2, rfl, C2, hb2⟩
    obtain ⟨qb, qo, qn, qc, uo, un, uc, rfl⟩ := C2.shape
    go_wp2_with fail
    refine (int1_any _).mono ?_; rintro e w3 ⟨v3, rfl, C3', hb3⟩
    obtain ⟨tb, t0, tn, tc, po, pn, pc, rfl⟩ := C3'.shape
    have C2V := (C2.next hb3).toV (fit_abs hfc.out) (by omega)
    have C3V := C3'.toV (fit_one hfc.out.pos) (k := k) (by omega)
    go_wp2_with fail
    refine (Compare_any (absQ c) 1 _ _ _ C2V C3V k (fit_abs hfc.out) (fit_one hfc.out.pos) (by omega)).mono ?_; rw [Hg.out]; rintro e w4 ⟨rfl, hb4⟩
    have hbel4 := below_chain (below_chain (below_chain hbela hb2) hb3) hb4
    have hD4 := ((HD.out.next hb2).next hb3).next hb4
    have C14 := ((C1a.next hb2).next hb3).next hb4
    obtain ⟨G4, hG4⟩ : ∃ G, w1.heap.size = G := ⟨_, rfl⟩
    rw [hG4] at hD4 ⊢
    clear d0 d1 d2 C1V C2V C3V C2 C3' HD C1a hba hbela hG4 hb1 hb2 hb3 hb4 C1
    go_upto_region 4 with fail
    have hdd := (Below.refl w4.heap.size w4).drew
    have hS0 := C3.next hD4 hdd
    have C14d := C14.next hdd
    have hbeld := below_chain hbel4 hdd
    have hfs : Hid (Fit (k + 3) (1 - c)) := hid ((fit_sub (fit_one (k := 1) (by decide)) hfc.out).mono (by omega))
    go_cut [5] (fun s5 wx => StarCut w G4 (.bool rb) (.slice ro rn rc) (.slice so sn sc) (starT P) c s5 wx)
    case first =>
      refine wp_region_D (fun w' => C3 G4 (.bool rb) (.slice ro rn rc) (.slice so sn sc) w') [10] (by kernel_rfl) ?_
      refine wpAnyD_take (i := 2) (v := ?_) rfl (by kernel_rfl) (by kernel_rfl) (by kernel_rfl) (by kernel_rfl) (fun _ _ _ h => h) (Or.inl ⟨by rfl, ?_⟩) hS0 ?_
      rotate_left
      · intro w hw; obtain ⟨s1', s2', s3'⟩ := hw; first | (go_simp; done) | (go_simp; with_reducible rfl)
      refine wpAnyD_two (i := 0) (j := 8) (by kernel_rfl) rfl rfl (fun KK hKK => ?_) (fun KK hKK => ?_)
      · skip
        go_simp
        go_at_call 64
        refine (int1_any _).mono ?_; rintro e wq0 ⟨va, rfl, CA, hq0⟩
        obtain ⟨ab, a0, an, ac, bo, bn, bc, rfl⟩ := CA.shape
        have hSx1 := C3.next hS0 hq0
        refine hKK _ _ ⟨fun _ => hSx1, ?_⟩; clear hKK KK
        refine wpAnyD_two (i := 1) (j := 8) (by kernel_rfl) rfl rfl (fun KK hKK => ?_) (fun KK hKK => ?_)
        · skip
          go_simp
          go_at_call 64
          refine (int1_any _).mono ?_; rintro e wq1 ⟨vb, rfl, CB, hq1⟩
          obtain ⟨cb, c0, cn, cc, eo, en, ec, rfl⟩ := CB.shape
          have hSx2 := C3.next hSx1 hq1
          refine hKK _ _ ⟨fun _ => hSx2, ?_⟩; clear hKK KK
          refine wpAnyD_two (i := 3) (j := 8) (by kernel_rfl) rfl rfl (fun KK hKK => ?_) (fun KK hKK => ?_)
          · skip
            go_simp
            go_at_call 66
            refine (Sub_any 1 c _ _ _ ((CB).toV (fit_one hfc.out.pos) (k := k) (by omega)) ((((C14d).next hq0).next hq1).toV hfc.out (by omega)) k (fit_one hfc.out.pos) hfc.out (by omega)).mono ?_; rintro e wq3 ⟨vs, rfl, CS, hq3⟩
            obtain ⟨fb, f0, fn, fc, ho, hn, hc, rfl⟩ := CS.shape
            have hSx3 := C3.next hSx2 hq3
            refine hKK _ _ ⟨fun _ => hSx3, ?_⟩; clear hKK KK
            refine wpAnyD_two (i := 4) (j := 8) (by kernel_rfl) rfl rfl (fun KK hKK => ?_) (fun KK hKK => ?_)
            · skip
              go_simp
              go_at_call 65
              refine (Div_any 1 (1 - c) _ _ _ ((((CA).next hq1).next hq3).toV (fit_one (show 1 ≤ k + 3 by omega)) (by omega)) ((CS).toV hfs.out (by omega)) (k + 3) (fit_one (by omega)) hfs.out (by omega)).mono ?_; rintro e wq4 ⟨vd, rfl, CD, hq4⟩
              obtain ⟨gb, g0, gn, gc, io, in0, ic, rfl⟩ := CD.shape
              rw [hT.out] at CD; rw [hdv.out]
              have hSx4 := C3.next hSx3 hq4
              refine hKK _ _ ⟨fun _ => hSx4, ?_⟩; clear hKK KK
              refine wpAnyD_take (i := 5) (v := ?_) rfl (by kernel_rfl) (by kernel_rfl) (by kernel_rfl) (by kernel_rfl) (fun _ _ _ h => h) (Or.inl ⟨by rfl, ?_⟩) hSx4 ?_
              rotate_left
              · intro w _; first | (go_simp; done) | (go_simp; with_reducible rfl)
              refine wpAnyD_take (i := 6) (v := ?_) rfl (by kernel_rfl) (by kernel_rfl) (by kernel_rfl) (by kernel_rfl) (fun _ _ _ h => h) (Or.inl ⟨by rfl, ?_⟩) hSx4 ?_
              rotate_left
              · intro w _; first | (go_simp; done) | (go_simp; with_reducible rfl)
              refine wpAnyD_take (i := 7) (v := ?_) rfl (by kernel_rfl) (by kernel_rfl) (by kernel_rfl) (by kernel_rfl) (fun _ _ _ h => h) (Or.inl ⟨by rfl, ?_⟩) hSx4 ?_
              rotate_left
              · intro w _; first | (go_simp; done) | (go_simp; with_reducible rfl)
              refine wpAnyD_one (i := 8) (by kernel_rfl) rfl (fun KK hKK => ?_)
              go_simp
              have hBk5 := Bk.start (w := w) (below_chain (below_chain (below_chain (below_chain (hbeld) hq0) hq1) hq3) hq4) rfl (.bool false) (.slice none 0 0) (.slice none 0 0) 25
              have hSx5 := C3.next hSx4 (below_alloc (.cells #[.bool false, .slice none 0 0, .slice none 0 0] 25))
              refine hKK _ _ ⟨fun _ => hSx5, ?_⟩; clear hKK KK
              clear hBk5
              refine wpAnyD_one (i := 9) (by kernel_rfl) rfl (fun KK hKK => ?_)
              go_simp
              refine hKK _ _ ⟨fun _ => C3.next hSx4 (below_alloc _), ?_⟩; clear hKK KK
              refine wpAnyD_one (i := 10) (by kernel_rfl) rfl (fun KK hKK => ?_)
              go_simp
              refine hKK _ _ ⟨fun hn => absurd (by simp) hn, ?_⟩; clear hKK KK
              refine wpAnyD_done (by kernel_rfl) ?_ _
              go_wp2_with fail
              go_meet
              exact ⟨_, _, _, _, _, _, _, _, rfl, C3.here _ _ rfl, (CD).next (below_alloc _), C3.next hSx4 (below_alloc _), (((((C14d).next hq0).next hq1).next hq3).next hq4).next (below_alloc _), below_chain (below_chain (below_chain (below_chain (below_chain (hbeld) hq0) hq1) hq3) hq4) (below_alloc _)⟩
            · skip
              go_simp
              have hBk6 := Bk.start (w := w) (below_chain (below_chain (below_chain (hbeld) hq0) hq1) hq3) rfl (.bool false) (.slice none 0 0) (.slice none 0 0) 25
              have hSx6 := C3.next hSx3 (below_alloc (.cells #[.bool false, .slice none 0 0, .slice none 0 0] 25))
              refine hKK _ _ ⟨fun _ => hSx6, ?_⟩; clear hKK KK
              refine wpAnyD_one (i := 4) (by kernel_rfl) rfl (fun KK hKK => ?_)
              go_simp
              go_at_call 65
              refine (Div_any 1 (1 - c) _ _ _ (((((CA).next hq1).next hq3).next (below_alloc (.cells #[.bool false, .slice none 0 0, .slice none 0 0] 25))).toV (fit_one (show 1 ≤ k + 3 by omega)) (by omega)) (((CS).next (below_alloc (.cells #[.bool false, .slice none 0 0, .slice none 0 0] 25))).toV hfs.out (by omega)) (k + 3) (fit_one (by omega)) hfs.out (by omega)).mono ?_; rintro e wq4 ⟨vd, rfl, CD, hq4⟩
              obtain ⟨gb, g0, gn, gc, io, in0, ic, rfl⟩ := CD.shape
              rw [hT.out] at CD; rw [hdv.out]
              have hSx7 := C3.next hSx6 hq4
              refine hKK _ _ ⟨fun _ => hSx7, ?_⟩; clear hKK KK
              refine wpAnyD_take (i := 5) (v := ?_) rfl (by kernel_rfl) (by kernel_rfl) (by kernel_rfl) (by kernel_rfl) (fun _ _ _ h => h) (Or.inl ⟨by rfl, ?_⟩) hSx7 ?_
              rotate_left
              · intro w _; first | (go_simp; done) | (go_simp; with_reducible rfl)
              refine wpAnyD_take (i := 6) (v := ?_) rfl (by kernel_rfl) (by kernel_rfl) (by kernel_rfl) (by kernel_rfl) (fun _ _ _ h => h) (Or.inl ⟨by rfl, ?_⟩) hSx7 ?_
              rotate_left
              · intro w _; first | (go_simp; done) | (go_simp; with_reducible rfl)
              refine wpAnyD_take (i := 7) (v := ?_) rfl (by kernel_rfl) (by kernel_rfl) (by kernel_rfl) (by kernel_rfl) (fun _ _ _ h => h) (Or.inl ⟨by rfl, ?_⟩) hSx7 ?_
              rotate_left
              · intro w _; first | (go_simp; done) | (go_simp; with_reducible rfl)
              refine wpAnyD_one (i := 9) (by kernel_rfl) rfl (fun KK hKK => ?_)
              obtain ⟨bk0, bk1, bk2⟩ := ((hBk6).next hq4).c3
              have bf0 := ((hBk6).next hq4).free 0
              have bf1 := ((hBk6).next hq4).free 1
              have bf2 := ((hBk6).next hq4).free 2
              go_simp
              refine hKK _ _ ⟨fun _ => C3.set3 hSx7 (Nat.ne_of_gt (World.block_lt_of_cell? _ _ (hSx3).1)) _ _ _, ?_⟩; clear hKK KK
              refine wpAnyD_one (i := 10) (by kernel_rfl) rfl (fun KK hKK => ?_)
              go_simp
              refine hKK _ _ ⟨fun hn => absurd (by simp) hn, ?_⟩; clear hKK KK
              refine wpAnyD_done (by kernel_rfl) ?_ _
              go_wp2_with fail
              go_meet
              exact ⟨_, _, _, _, _, _, _, _, rfl, (((hBk6).next hq4).put _ _ _).c3, (CD).putOther ((hBk6).next hq4).res _ _ _, C3.set3 hSx7 (Nat.ne_of_gt (World.block_lt_of_cell? _ _ (hSx3).1)) _ _ _, ((((((C14d).next hq0).next hq1).next hq3).next (below_alloc (.cells #[.bool false, .slice none 0 0, .slice none 0 0] 25))).next hq4).putOther ((hBk6).next hq4).res _ _ _, below_set3 ((hBk6).next hq4).bel ((hBk6).next hq4).ge _ _ _⟩
          · skip
            go_simp
            have hBk8 := Bk.start (w := w) (below_chain (below_chain (hbeld) hq0) hq1) rfl (.bool false) (.slice none 0 0) (.slice none 0 0) 25
            have hSx8 := C3.next hSx2 (below_alloc (.cells #[.bool false, .slice none 0 0, .slice none 0 0] 25))
            refine hKK _ _ ⟨fun _ => hSx8, ?_⟩; clear hKK KK
            refine wpAnyD_one (i := 3) (by kernel_rfl) rfl (fun KK hKK => ?_)
            go_simp
            go_at_call 66
            refine (Sub_any 1 c _ _ _ (((CB).next (below_alloc (.cells #[.bool false, .slice none 0 0, .slice none 0 0] 25))).toV (fit_one hfc.out.pos) (k := k) (by omega)) (((((C14d).next hq0).next hq1).next (below_alloc (.cells #[.bool false, .slice none 0 0, .slice none 0 0] 25))).toV hfc.out (by omega)) k (fit_one hfc.out.pos) hfc.out (by omega)).mono ?_; rintro e wq3 ⟨vs, rfl, CS, hq3⟩
            obtain ⟨fb, f0, fn, fc, ho, hn, hc, rfl⟩ := CS.shape
            have hSx9 := C3.next hSx8 hq3
            refine hKK _ _ ⟨fun _ => hSx9, ?_⟩; clear hKK KK
            refine wpAnyD_one (i := 4) (by kernel_rfl) rfl (fun KK hKK => ?_)
            go_simp
            go_at_call 65
            refine (Div_any 1 (1 - c) _ _ _ (((((CA).next hq1).next (below_alloc (.cells #[.bool false, .slice none 0 0, .slice none 0 0] 25))).next hq3).toV (fit_one (show 1 ≤ k + 3 by omega)) (by omega)) ((CS).toV hfs.out (by omega)) (k + 3) (fit_one (by omega)) hfs.out (by omega)).mono ?_; rintro e wq4 ⟨vd, rfl, CD, hq4⟩
            obtain ⟨gb, g0, gn, gc, io, in0, ic, rfl⟩ := CD.shape
            rw [hT.out] at CD; rw [hdv.out]
            have hSx10 := C3.next hSx9 hq4
            refine hKK _ _ ⟨fun _ => hSx10, ?_⟩; clear hKK KK
            refine wpAnyD_take (i := 5) (v := ?_) rfl (by kernel_rfl) (by kernel_rfl) (by kernel_rfl) (by kernel_rfl) (fun _ _ _ h => h) (Or.inl ⟨by rfl, ?_⟩) hSx10 ?_
            rotate_left
            · intro w _; first | (go_simp; done) | (go_simp; with_reducible rfl)
            refine wpAnyD_take (i := 6) (v := ?_) rfl (by kernel_rfl) (by kernel_rfl) (by kernel_rfl) (by kernel_rfl) (fun _ _ _ h => h) (Or.inl ⟨by rfl, ?_⟩) hSx10 ?_
            rotate_left
            · intro w _; first | (go_simp; done) | (go_simp; with_reducible rfl)
            refine wpAnyD_take (i := 7) (v := ?_) rfl (by kernel_rfl) (by kernel_rfl) (by kernel_rfl) (by kernel_rfl) (fun _ _ _ h => h) (Or.inl ⟨by rfl, ?_⟩) hSx10 ?_
            rotate_left
            · intro w _; first | (go_simp; done) | (go_simp; with_reducible rfl)
            refine wpAnyD_one (i := 9) (by kernel_rfl) rfl (fun KK hKK => ?_)
            obtain ⟨bk0, bk1, bk2⟩ := (((hBk8).next hq3).next hq4).c3
            have bf0 := (((hBk8).next hq3).next hq4).free 0
            have bf1 := (((hBk8).next hq3).next hq4).free 1
            have bf2 := (((hBk8).next hq3).next hq4).free 2
            go_simp
            refine hKK _ _ ⟨fun _ => C3.set3 hSx10 (Nat.ne_of_gt (World.block_lt_of_cell? _ _ (hSx2).1)) _ _ _, ?_⟩; clear hKK KK
            refine wpAnyD_one (i := 10) (by kernel_rfl) rfl (fun KK hKK => ?_)
            go_simp
            refine hKK _ _ ⟨fun hn => absurd (by simp) hn, ?_⟩; clear hKK KK
            refine wpAnyD_done (by kernel_rfl) ?_ _
            go_wp2_with fail
            go_meet
            exact ⟨_, _, _, _, _, _, _, _, rfl, ((((hBk8).next hq3).next hq4).put _ _ _).c3, (CD).putOther (((hBk8).next hq3).next hq4).res _ _ _, C3.set3 hSx10 (Nat.ne_of_gt (World.block_lt_of_cell? _ _ (hSx2).1)) _ _ _, ((((((C14d).next hq0).next hq1).next (below_alloc (.cells #[.bool false, .slice none 0 0, .slice none 0 0] 25))).next hq3).next hq4).putOther (((hBk8).next hq3).next hq4).res _ _ _, below_set3 (((hBk8).next hq3).next hq4).bel (((hBk8).next hq3).next hq4).ge _ _ _⟩
        · skip
          go_simp
          have hBk11 := Bk.start (w := w) (below_chain (hbeld) hq0) rfl (.bool false) (.slice none 0 0) (.slice none 0 0) 25
          have hSx11 := C3.next hSx1 (below_alloc (.cells #[.bool false, .slice none 0 0, .slice none 0 0] 25))
          refine hKK _ _ ⟨fun _ => hSx11, ?_⟩; clear hKK KK
          refine wpAnyD_one (i := 1) (by kernel_rfl) rfl (fun KK hKK => ?_)
          go_simp
          go_at_call 64
          refine (int1_any _).mono ?_; rintro e wq1 ⟨vb, rfl, CB, hq1⟩
          obtain ⟨cb, c0, cn, cc, eo, en, ec, rfl⟩ := CB.shape
          have hSx12 := C3.next hSx11 hq1
          refine hKK _ _ ⟨fun _ => hSx12, ?_⟩; clear hKK KK
          refine wpAnyD_one (i := 3) (by kernel_rfl) rfl (fun KK hKK => ?_)
          go_simp
          go_at_call 66
          refine (Sub_any 1 c _ _ _ ((CB).toV (fit_one hfc.out.pos) (k := k) (by omega)) (((((C14d).next hq0).next (below_alloc (.cells #[.bool false, .slice none 0 0, .slice none 0 0] 25))).next hq1).toV hfc.out (by omega)) k (fit_one hfc.out.pos) hfc.out (by omega)).mono ?_; rintro e wq3 ⟨vs, rfl, CS, hq3⟩
          obtain ⟨fb, f0, fn, fc, ho, hn, hc, rfl⟩ := CS.shape
          have hSx13 := C3.next hSx12 hq3
          refine hKK _ _ ⟨fun _ => hSx13, ?_⟩; clear hKK KK
          refine wpAnyD_one (i := 4) (by kernel_rfl) rfl (fun KK hKK => ?_)
          go_simp
          go_at_call 65
          refine (Div_any 1 (1 - c) _ _ _ (((((CA).next (below_alloc (.cells #[.bool false, .slice none 0 0, .slice none 0 0] 25))).next hq1).next hq3).toV (fit_one (show 1 ≤ k + 3 by omega)) (by omega)) ((CS).toV hfs.out (by omega)) (k + 3) (fit_one (by omega)) hfs.out (by omega)).mono ?_; rintro e wq4 ⟨vd, rfl, CD, hq4⟩
          obtain ⟨gb, g0, gn, gc, io, in0, ic, rfl⟩ := CD.shape
          rw [hT.out] at CD; rw [hdv.out]
          have hSx14 := C3.next hSx13 hq4
          refine hKK _ _ ⟨fun _ => hSx14, ?_⟩; clear hKK KK
          refine wpAnyD_take (i := 5) (v := ?_) rfl (by kernel_rfl) (by kernel_rfl) (by kernel_rfl) (by kernel_rfl) (fun _ _ _ h => h) (Or.inl ⟨by rfl, ?_⟩) hSx14 ?_
          rotate_left
          · intro w _; first | (go_simp; done) | (go_simp; with_reducible rfl)
          refine wpAnyD_take (i := 6) (v := ?_) rfl (by kernel_rfl) (by kernel_rfl) (by kernel_rfl) (by kernel_rfl) (fun _ _ _ h => h) (Or.inl ⟨by rfl, ?_⟩) hSx14 ?_
          rotate_left
          · intro w _; first | (go_simp; done) | (go_simp; with_reducible rfl)
          refine wpAnyD_take (i := 7) (v := ?_) rfl (by kernel_rfl) (by kernel_rfl) (by kernel_rfl) (by kernel_rfl) (fun _ _ _ h => h) (Or.inl ⟨by rfl, ?_⟩) hSx14 ?_
          rotate_left
          · intro w _; first | (go_simp; done) | (go_simp; with_reducible rfl)
          refine wpAnyD_one (i := 9) (by kernel_rfl) rfl (fun KK hKK => ?_)
          obtain ⟨bk0, bk1, bk2⟩ := ((((hBk11).next hq1).next hq3).next hq4).c3
          have bf0 := ((((hBk11).next hq1).next hq3).next hq4).free 0
          have bf1 := ((((hBk11).next hq1).next hq3).next hq4).free 1
          have bf2 := ((((hBk11).next hq1).next hq3).next hq4).free 2
          go_simp
          refine hKK _ _ ⟨fun _ => C3.set3 hSx14 (Nat.ne_of_gt (World.block_lt_of_cell? _ _ (hSx1).1)) _ _ _, ?_⟩; clear hKK KK
          refine wpAnyD_one (i := 10) (by kernel_rfl) rfl (fun KK hKK => ?_)
          go_simp
          refine hKK _ _ ⟨fun hn => absurd (by simp) hn, ?_⟩; clear hKK KK
          refine wpAnyD_done (by kernel_rfl) ?_ _
          go_wp2_with fail
          go_meet
          exact ⟨_, _, _, _, _, _, _, _, rfl, (((((hBk11).next hq1).next hq3).next hq4).put _ _ _).c3, (CD).putOther ((((hBk11).next hq1).next hq3).next hq4).res _ _ _, C3.set3 hSx14 (Nat.ne_of_gt (World.block_lt_of_cell? _ _ (hSx1).1)) _ _ _, ((((((C14d).next hq0).next (below_alloc (.cells #[.bool false, .slice none 0 0, .slice none 0 0] 25))).next hq1).next hq3).next hq4).putOther ((((hBk11).next hq1).next hq3).next hq4).res _ _ _, below_set3 ((((hBk11).next hq1).next hq3).next hq4).bel ((((hBk11).next hq1).next hq3).next hq4).ge _ _ _⟩
      · skip
        go_simp
        have hBk15 : Bk w w4.heap.size (.bool false) (.slice none 0 0) (.slice none 0 0) _ := Bk.start (w := w) (hbeld) rfl (.bool false) (.slice none 0 0) (.slice none 0 0) 25
        have hSx15 := C3.next hS0 (below_alloc (.cells #[.bool false, .slice none 0 0, .slice none 0 0] 25))
        refine hKK _ _ ⟨fun _ => hSx15, ?_⟩; clear hKK KK
        refine wpAnyD_one (i := 0) (by kernel_rfl) rfl (fun KK hKK => ?_)
        go_simp
        go_at_call 64
        refine (int1_any _).mono ?_; rintro e wq0 ⟨va, rfl, CA, hq0⟩
        obtain ⟨ab, a0, an, ac, bo, bn, bc, rfl⟩ := CA.shape
        have hSx16 := C3.next hSx15 hq0
        refine hKK _ _ ⟨fun _ => hSx16, ?_⟩; clear hKK KK
        refine wpAnyD_one (i := 1) (by kernel_rfl) rfl (fun KK hKK => ?_)
        go_simp
        go_at_call 64
        refine (int1_any _).mono ?_; rintro e wq1 ⟨vb, rfl, CB, hq1⟩
        obtain ⟨cb, c0, cn, cc, eo, en, ec, rfl⟩ := CB.shape
        have hSx17 := C3.next hSx16 hq1
        refine hKK _ _ ⟨fun _ => hSx17, ?_⟩; clear hKK KK
        refine wpAnyD_one (i := 3) (by kernel_rfl) rfl (fun KK hKK => ?_)
        go_simp
        go_at_call 66
        refine (Sub_any 1 c _ _ _ ((CB).toV (fit_one hfc.out.pos) (k := k) (by omega)) (((((C14d).next (below_alloc (.cells #[.bool false, .slice none 0 0, .slice none 0 0] 25))).next hq0).next hq1).toV hfc.out (by omega)) k (fit_one hfc.out.pos) hfc.out (by omega)).mono ?_; rintro e wq3 ⟨vs, rfl, CS, hq3⟩
        obtain ⟨fb, f0, fn, fc, ho, hn, hc, rfl⟩ := CS.shape
        have hSx18 := C3.next hSx17 hq3
        refine hKK _ _ ⟨fun _ => hSx18, ?_⟩; clear hKK KK
        refine wpAnyD_one (i := 4) (by kernel_rfl) rfl (fun KK hKK => ?_)
        go_simp
        go_at_call 65
        refine (Div_any 1 (1 - c) _ _ _ ((((CA).next hq1).next hq3).toV (fit_one (show 1 ≤ k + 3 by omega)) (by omega)) ((CS).toV hfs.out (by omega)) (k + 3) (fit_one (by omega)) hfs.out (by omega)).mono ?_; rintro e wq4 ⟨vd, rfl, CD, hq4⟩
        obtain ⟨gb, g0, gn, gc, io, in0, ic, rfl⟩ := CD.shape
        rw [hT.out] at CD; rw [hdv.out]
        have hSx19 := C3.next hSx18 hq4
        refine hKK _ _ ⟨fun _ => hSx19, ?_⟩; clear hKK KK
        refine wpAnyD_take (i := 5) (v := ?_) rfl (by kernel_rfl) (by kernel_rfl) (by kernel_rfl) (by kernel_rfl) (fun _ _ _ h => h) (Or.inl ⟨by rfl, ?_⟩) hSx19 ?_
        rotate_left
        · intro w _; first | (go_simp; done) | (go_simp; with_reducible rfl)
        refine wpAnyD_take (i := 6) (v := ?_) rfl (by kernel_rfl) (by kernel_rfl) (by kernel_rfl) (by kernel_rfl) (fun _ _ _ h => h) (Or.inl ⟨by rfl, ?_⟩) hSx19 ?_
        rotate_left
        · intro w _; first | (go_simp; done) | (go_simp; with_reducible rfl)
        refine wpAnyD_take (i := 7) (v := ?_) rfl (by kernel_rfl) (by kernel_rfl) (by kernel_rfl) (by kernel_rfl) (fun _ _ _ h => h) (Or.inl ⟨by rfl, ?_⟩) hSx19 ?_
        rotate_left
        · intro w _; first | (go_simp; done) | (go_simp; with_reducible rfl)
        refine wpAnyD_one (i := 9) (by kernel_rfl) rfl (fun KK hKK => ?_)
        obtain ⟨bk0, bk1, bk2⟩ := (((((hBk15).next hq0).next hq1).next hq3).next hq4).c3
        have bf0 := (((((hBk15).next hq0).next hq1).next hq3).next hq4).free 0
        have bf1 := (((((hBk15).next hq0).next hq1).next hq3).next hq4).free 1
        have bf2 := (((((hBk15).next hq0).next hq1).next hq3).next hq4).free 2
        go_simp
        refine hKK _ _ ⟨fun _ => C3.set3 hSx19 (Nat.ne_of_gt (World.block_lt_of_cell? _ _ (hS0).1)) _ _ _, ?_⟩; clear hKK KK
        refine wpAnyD_one (i := 10) (by kernel_rfl) rfl (fun KK hKK => ?_)
        go_simp
        refine hKK _ _ ⟨fun hn => absurd (by simp) hn, ?_⟩; clear hKK KK
        refine wpAnyD_done (by kernel_rfl) ?_ _
        go_wp2_with fail
        go_meet
        exact ⟨_, _, _, _, _, _, _, _, rfl, ((((((hBk15).next hq0).next hq1).next hq3).next hq4).put _ _ _).c3, (CD).putOther (((((hBk15).next hq0).next hq1).next hq3).next hq4).res _ _ _, C3.set3 hSx19 (Nat.ne_of_gt (World.block_lt_of_cell? _ _ (hS0).1)) _ _ _, ((((((C14d).next (below_alloc (.cells #[.bool false, .slice none 0 0, .slice none 0 0] 25))).next hq0).next hq1).next hq3).next hq4).putOther (((((hBk15).next hq0).next hq1).next hq3).next hq4).res _ _ _, below_set3 (((((hBk15).next hq0).next hq1).next hq3).next hq4).bel (((((hBk15).next hq0).next hq1).next hq3).next hq4).ge _ _ _⟩
    case rest =>
      obtain ⟨G5, xb, xo, xn, xc, yo, yn, yc, rfl, hD5, hrt, hD4', hC1c, hbelc⟩ := hcut
      have hdc := (Below.refl wc.heap.size wc).drew
      have hS0 : C3 G4 (.bool rb) (.slice ro rn rc) (.slice so sn sc) wc.drew ∧ C3 G5 (.bool xb) (.slice xo xn xc) (.slice yo yn yc) wc.drew := ⟨C3.next hD4' hdc, C3.next hD5 hdc⟩
      have hrtd := hrt.next hdc
      have hbelcd := below_chain hbelc hdc
      have C1c : RatC wc.drew (.agg #[.bool rb, .slice ro rn rc, .slice so sn sc]) c := hC1c.next hdc
      have hft : Hid (Fit (k + 3) (starT P)) := hid (fit_starT hPk.out)
      have hstep : Hid (mulP (addP P (constP (-c))) (constP (starT P)) = stepP P) := hid (by rw [← Hc.out]; rfl)
      have hP0 := hid (hPV.out.next hbelcd)
      clear hD5 hD4' hrt hC1c
      go_wp2_with fail
      refine wp_region_D (fun w' => C3 G4 (.bool rb) (.slice ro rn rc) (.slice so sn sc) w' ∧ C3 G5 (.bool xb) (.slice xo xn xc) (.slice yo yn yc) w') [] (by kernel_rfl) ?_
      refine wpAnyD_take (i := 0) (v := ?_) rfl (by kernel_rfl) (by kernel_rfl) (by kernel_rfl) (by kernel_rfl) (fun _ _ _ h => h) (Or.inl ⟨by rfl, ?_⟩) hS0 ?_
      rotate_left
      · intro w _; first | (go_simp; done) | (go_simp; with_reducible rfl)
      refine wpAnyD_take (i := 1) (v := ?_) rfl (by kernel_rfl) (by kernel_rfl) (by kernel_rfl) (by kernel_rfl) (fun _ _ _ h => h) (Or.inl ⟨by rfl, ?_⟩) hS0 ?_
      rotate_left
      · intro w hw; obtain ⟨⟨s1', s2', s3'⟩, s4', s5', s6'⟩ := hw; first | (go_simp; done) | (go_simp; with_reducible rfl)
      refine wpAnyD_take (i := 5) (v := ?_) rfl (by kernel_rfl) (by kernel_rfl) (by kernel_rfl) (by kernel_rfl) (fun _ _ _ h => h) (Or.inl ⟨by rfl, ?_⟩) hS0 ?_
      rotate_left
      · intro w hw; obtain ⟨⟨s1', s2', s3'⟩, s4', s5', s6'⟩ := hw; first | (go_simp; done) | (go_simp; with_reducible rfl)
      refine wpAnyD_one (i := 2) (by kernel_rfl) rfl (fun KK hKK => ?_)
      go_simp
      go_at_call 67
      refine (Neg_any c _ _ (C1c.toV hfc.out (by omega)) k hfc.out (by omega)).mono ?_; rintro e w5 ⟨v5, rfl, C5, hb5⟩
      obtain ⟨a1, a2, a3, a4, a5, a6, a7, rfl⟩ := C5.shape6
      have hS5 := And.intro (C3.next hS0.1 hb5) (C3.next hS0.2 hb5)
      refine hKK _ _ ⟨fun _ => hS5, ?_⟩; clear hKK KK
      refine wpAnyD_one (i := 3) (by kernel_rfl) rfl (fun KK hKK => ?_)
      go_simp
      go_at_call 29
      refine (pConst_any (-c) _ _ (C5.toV (fit_neg hfc.out) (by omega)) k (fit_neg hfc.out) (by omega)).mono ?_; rintro e w6 ⟨po, pc, rfl, hP6, hb6⟩
      have hS6 := And.intro (C3.next hS5.1 hb6) (C3.next hS5.2 hb6)
      refine hKK _ _ ⟨fun _ => hS6, ?_⟩; clear hKK KK
      refine wpAnyD_one (i := 4) (by kernel_rfl) rfl (fun KK hKK => ?_)
      go_simp
      go_at_call 17
      refine (pAdd_any P (constP (-c)) _ _ _ ((hP0.out.next hb5).next hb6) (hP6.toV (fitP_const (fit_neg hfc.out)) (by omega)) k hPk.out (fitP_const (fit_neg hfc.out)) (by omega)).mono ?_; rintro e w7 ⟨qo', qc', rfl, hP7, hb7⟩
      have hS7 := And.intro (C3.next hS6.1 hb7) (C3.next hS6.2 hb7)
      have hr7 := ((hrtd.next hb5).next hb6).next hb7
      refine hKK _ _ ⟨fun _ => hS7, ?_⟩; clear hKK KK
      refine wpAnyD_one (i := 6) (by kernel_rfl) rfl (fun KK hKK => ?_)
      go_simp
      go_at_call 21
      refine (pScale_any _ (starT P) _ _ _ (hP7.toV (hPk.out.add (fitP_const (fit_neg hfc.out))) (by omega)) (hr7.toV hft.out (by omega)) (k + k + 1) (k + 3) (hPk.out.add (fitP_const (fit_neg hfc.out))) hft.out (by omega)).mono ?_; rw [hstep.out]; rintro e w8 ⟨no, nc, rfl, hP8, hb8⟩
      have hS8 := And.intro (C3.next hS7.1 hb8) (C3.next hS7.2 hb8)
      refine hKK _ _ ⟨fun _ => hS8, ?_⟩; clear hKK KK
      refine wpAnyD_take (i := 7) (v := ?_) rfl (by kernel_rfl) (by kernel_rfl) (by kernel_rfl) (by kernel_rfl) (fun _ _ _ h => h) (Or.inl ⟨by rfl, ?_⟩) hS8 ?_
      rotate_left
      · intro w _; first | (go_simp; done) | (go_simp; with_reducible rfl)
      refine wpAnyD_done (by kernel_rfl) ?_ _
      go_simp
      have hr8 := hr7.next hb8
      have hbel8 := below_chain (below_chain (below_chain (below_chain hbelcd hb5) hb6) hb7) hb8
      obtain ⟨e0, e1, e2⟩ := hS8.2
      clear hS0 hS5 hS6 hS7 hS8 C1c C5 hP6 hP7 hrtd hr7
      go_wp2_with fail
      refine (pConst_any (starT P) _ _ (hr8.toV hft.out (by omega)) (k + 3) hft.out (by omega)).mono ?_; rintro e w9 ⟨to', tc', rfl, hP9, hb9⟩
      have hN9 := hP8.next hb9
      have hbel9 := below_chain hbel8 hb9
      clear hP8 hr8 e0 e1 e2
      go_wp2_with fail
      go_loopg [8, 9] 6 (fun g av bv wr => ∃ (i : Nat) (oo po : Option Addr) (oc pc : Nat), i + g = 6 ∧ av = .slice oo (lst (geoP (constP (starT P)) (stepP P) i)).length oc ∧ bv = .slice po (lst (powP (constP (starT P)) (stepP P) i)).length pc ∧ PolC wr oo oc (geoP (constP (starT P)) (stepP P) i) ∧ PolC wr po pc (powP (constP (starT P)) (stepP P) i) ∧ PolC wr no nc (stepP P) ∧ Below w.heap.size w wr)
      case atStart => exact ⟨0, to', to', tc', tc', rfl, rfl, rfl, hP9, hP9, hN9, hbel9⟩
      case round =>
        clear hP9 hN9 hbel9
        obtain ⟨i, oo, po, oc, pc, hig, rfl, rfl, hO, hPw, hN, hbel⟩ := hrel
        obtain ⟨lp, hlp⟩ : ∃ n, (lst (powP (constP (starT P)) (stepP P) i)).length = n := ⟨_, rfl⟩
        have Hlp := hid hlp
        have hPwV := hPw.toV (hsz.out i (by omega)).1 (by omega)
        rw [hlp] at hPwV ⊢
        by_cases h0 : lp = 0
        · subst h0
          have hstop : Hid (EqP (geoP (constP (starT P)) (stepP P) i) (starP P)) := hid (geo_stop _ _ (by omega) (powP_zero_iff Hlp.out))
          clear hlp hPwV
          go_wp2_with fail
          go_ret2
          rw [hE.out, hR.out]
          exact ⟨oo, oc, by rw [lst_congr hstop.out]; rfl, hO.congr hstop.out, hbel⟩
        · have h0' : 0 < lp := by omega
          have hi6 : i ≠ 6 := fun e => by
            subst e
            rw [powP_six_len (stepP_zero P)] at hlp
            omega
          have hNV := hN.toV (fit_stepP (hPk.out.mono h30)) (by omega)
          clear hlp
          go_wp2_with fail
          refine (pMul_any (powP (constP (starT P)) (stepP P) i) (stepP P) _ _ _ hPwV hNV 10000000 94 4 (hsz.out i (by omega)).1 (fit_stepP (hPk.out.mono h30)) (.inr hlen.out) (by decide)).mono ?_; rintro e w10 ⟨mo, mc, rfl, hM, hb10⟩
          have hO10 := (hO.next hb10).toV (hsz.out i (by omega)).2 (by omega)
          have hM' : PolC w10 mo mc (powP (constP (starT P)) (stepP P) (i + 1)) := hM
          have hMV := hM'.toV (hsz.out (i + 1) (by omega)).1 (by omega)
          go_wp2_with fail
          refine (pAdd_any (geoP (constP (starT P)) (stepP P) i) (powP (constP (starT P)) (stepP P) (i + 1)) _ _ _ hO10 hMV 10000000 (hsz.out i (by omega)).2 (hsz.out (i + 1) (by omega)).1 (by decide)).mono ?_; rintro e w11 ⟨so', sc', rfl, hSm, hb11⟩
          have hbel11 := below_chain (below_chain hbel hb10) hb11
          have hN11 := (hN.next hb10).next hb11
          have hM11 := hM'.next hb11
          clear hO hPw hN hO10 hMV hNV hPwV
          go_wp2_with fail
          go_roundg (5 - i)
          case rel => exact ⟨i + 1, so', mo, sc', mc, by omega, rfl, rfl, hSm, hM11, hN11, hbel11⟩
          case measure => omega
end Go.Proofs.YtgohfieleckmgaaGreatDoor
