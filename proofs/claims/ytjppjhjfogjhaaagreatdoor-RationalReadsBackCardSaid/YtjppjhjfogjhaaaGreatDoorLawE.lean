/-
  The walk of RationalReadsBack. No condition but the table of powers of ten.
-/
import Derived.Test.YtjppjhjfogjhaaaGreatDoorLawC
namespace Go.Proofs.YtjppjhjfogjhaaaGreatDoor
open Go.RowKit Go.Lib
set_option linter.unusedSimpArgs false
set_option linter.unusedVariables false

theorem parse_fit {x : Rat} {k : Nat} (h : Fit k x) (hk : k ≤ 60) : parseOk (fmtQ x) = true ∧ parseQ (fmtQ x) = x :=
  parse_fmt x (Nat.le_trans (dec_len_le h.1) (by omega)) (Nat.le_trans (dec_len_le h.2) (by omega))

theorem fmt_len {x : Rat} {k : Nat} (h : Fit k x) (hk : k ≤ 60) : (fmtQ x).length ≤ 5000 := by
  have h1 := dec_len_le h.1
  have h2 := dec_len_le h.2
  unfold fmtQ
  simp only [List.length_append]
  have e1 : (if x.num < 0 then [(45 : UInt8)] else []).length ≤ 1 := by split <;> simp
  have e2 : (if x.den = 1 then [] else 47 :: decDigits x.den).length ≤ 32 * k + 2 := by
    split
    · simp
    · simp; omega
  omega

theorem make_one (v : Int) : makeRat v 1 = (v : Rat) := by
  unfold makeRat; rw [if_neg (by decide)]; grind

theorem whole_int {v : Int} (h1 : -9223372036854775808 ≤ v) (h2 : v ≤ 9223372036854775807) : wholeV (v : Rat) = v ∧ wholeOk (v : Rat) = true := by
  have h : wholeOk (v : Rat) = true := decide_eq_true ⟨Rat.den_intCast v, by rw [Rat.num_intCast]; exact h1, by rw [Rat.num_intCast]; exact h2⟩
  exact ⟨by unfold wholeV; rw [h, if_pos rfl, Rat.num_intCast], h⟩

set_option maxHeartbeats 8000000 in
set_option maxRecDepth 100000 in
theorem walkReads (w : World) (hp : Pow w) (s : Bool) (N D : List Nat) (bo : Option Addr) (m ca : Nat) (co : Option Addr) (l cb : Nat) (hN1 : Sl w bo m ca (u32s N)) (hD1 : Sl w co l cb (u32s D)) (LN1 : Lim N) (LD1 : Lim D) (zb1 : bo = none → ca = 0) (zc1 : co = none → cb = 0) (v : Int) (wv : (Lit.int .i64 v).wf = true) :
    Calls Tryz.prog 5 #[.agg #[.bool s, .slice bo m ca, .slice co l cb], .int .i64 v] w fun e w' => e = .returned (.bool true) ∧ Below w.heap.size w w' := by
  obtain ⟨hv1, hv2⟩ := i64_wf wv
  clear wv
  have bn1 := hN1.bound
  have bd1 := hD1.bound
  have X : Bk w w.heap.size (.bool s) (.slice bo m ca) (.slice co l cb) (w.alloc (.cells #[.bool s, .slice bo m ca, .slice co l cb] 24)) := Bk.start (Below.refl w.heap.size w) rfl (.bool s) (.slice bo m ca) (.slice co l cb) 24
  have HB := X.bel
  cases hL1 : lightB m l with
  | false =>
    have HL1 := hid hL1
    clear hL1
    go_enter Tryz.func5, Tryz.ntmps5
    go_wp2_with fail
    refine (llight_any s bo co m ca l cb bn1 bd1 _).mono ?_; rintro e w1 ⟨rfl, hb1⟩
    rw [HL1.out]
    replace X := X.next hb1
    replace HB := below_chain HB hb1
    clear hb1
    go_wp2_with fail
    refine (lawake_any _ (hp.next HB)).mono ?_; rintro e wq ⟨rfl, hbq⟩
    go_wp2_with fail
    go_ret
    exact ⟨rfl, below_chain HB hbq⟩
  | true =>
    obtain ⟨hm6, hl6⟩ := lightB_yes hL1
    have hval := fun W (hb : Below w.heap.size w W) => rValid_any s N D LN1 LD1 bo co m l ca cb W (hN1.next hb) (hD1.next hb) zb1 zc1 (by omega) (by omega)
    cases hok : ratOk s N D with
    | false =>
      rw [hok] at hval
      have HV := hid hval
      have HL1 := hid hL1
      clear hval hok hL1
      go_enter Tryz.func5, Tryz.ntmps5
      go_wp2_with fail
      refine (llight_any s bo co m ca l cb bn1 bd1 _).mono ?_; rintro e w1 ⟨rfl, hb1⟩
      rw [HL1.out]
      replace X := X.next hb1
      replace HB := below_chain HB hb1
      clear hb1
      obtain ⟨x0, x1, x2⟩ := X.c3
      go_wp2_with fail
      refine (HV.out _ HB).mono ?_; rintro e w2 ⟨rfl, hb2⟩
      clear x0 x1 x2
      replace X := X.next hb2
      replace HB := below_chain HB hb2
      clear hb2
      go_wp2_with fail
      refine (lawake_any _ (hp.next HB)).mono ?_; rintro e wq ⟨rfl, hbq⟩
      go_wp2_with fail
      go_ret
      exact ⟨rfl, below_chain HB hbq⟩
    | true =>
      rw [hok] at hval
      have HV := hid hval
      have HL1 := hid hL1
      obtain ⟨VX, fx⟩ := arg_V (s := s) hN1 hD1 LN1 LD1 zb1 zc1 hL1
      have CX := arg_C hN1 hD1 LN1 LD1 zb1 zc1 hok
      generalize ratOf s N D = x at *
      clear hval hok hL1 hN1 hD1 LN1 LD1
      replace VX := VX.next HB
      replace CX := CX.next HB
      have hpf := hid (parse_fit fx (by decide))
      have hfl := fmt_len fx (by decide)
      obtain ⟨FL, hFL⟩ : ∃ l, fmtQ x = l := ⟨_, rfl⟩
      rw [hFL] at hpf hfl
      have HF := hid hFL
      clear hFL
      have hw := hid (whole_int hv1 hv2)
      have hm1 := hid (make_one v)
      have e1 : (v == v) = true := by simp
      go_enter Tryz.func5, Tryz.ntmps5
      go_wp2_with fail
      refine (llight_any s bo co m ca l cb bn1 bd1 _).mono ?_; rintro e w1 ⟨rfl, hb1⟩
      rw [HL1.out]
      replace X := X.next hb1
      replace VX := VX.next hb1
      replace CX := CX.next hb1
      replace HB := below_chain HB hb1
      clear hb1
      obtain ⟨x0, x1, x2⟩ := X.c3
      go_wp2_with fail
      refine (HV.out _ HB).mono ?_; rintro e w2 ⟨rfl, hb2⟩
      clear x0 x1 x2
      replace X := X.next hb2
      replace VX := VX.next hb2
      replace CX := CX.next hb2
      replace HB := below_chain HB hb2
      clear hb2
      have HP := hp.next HB
      clear hp bn1 bd1 HL1 HV zb1 zc1 hm6 hl6
      obtain ⟨x0, x1, x2⟩ := X.c3
      go_wp2_with fail
      refine (Format_any x _ _ VX 6 fx (by decide) HP).mono ?_
      rw [HF.out]
      rintro e w3 ⟨s3, rfl, hs3, hb3⟩
      have hz3 : s3.size ≤ 9223372036854775000 := by rw [Lib.size_eq, hs3]; omega
      have hPa := Parse_any s3 hz3
      rw [hs3] at hPa
      unfold ParseOut at hPa
      rw [hpf.out.1, hpf.out.2] at hPa
      have HPa := hid hPa
      clear hPa hs3
      clear x0 x1 x2
      replace X := X.next hb3
      replace VX := VX.next hb3
      replace CX := CX.next hb3
      replace HP := HP.next hb3
      replace HB := below_chain HB hb3
      clear hb3
      go_wp2_with fail
      refine (HPa.out _).mono ?_; rintro e w4 ⟨v4, rfl, CA, hb4⟩
      obtain ⟨rb, ro, rn, rc, so, sn, sc, rfl⟩ := CA.shape
      replace X := X.next hb4
      replace VX := VX.next hb4
      replace CX := CX.next hb4
      replace HP := HP.next hb4
      replace HB := below_chain HB hb4
      clear hb4
      have hb5 : Below w4.heap.size w4 (w4.alloc (.cells #[.bool rb, .slice ro rn rc, .slice so sn sc] 24)) := below_alloc _
      have A := Bk.start HB rfl (.bool rb) (.slice ro rn rc) (.slice so sn sc) 24
      replace X := X.next hb5
      replace VX := VX.next hb5
      replace CX := CX.next hb5
      replace HP := HP.next hb5
      replace CA := CA.next hb5
      replace HB := below_chain HB hb5
      clear hb5
      go_wp2_with fail
      refine (Make_any v 1 hv1 hv2 (by decide) (by decide) _).mono ?_
      rw [hm1.out, show makeErr 1 = 0 from rfl]
      rintro e w6 ⟨v6, rfl, CB, hb6⟩
      obtain ⟨tb, to', tn, tc, uo, un, uc, rfl⟩ := CB.shape
      replace X := X.next hb6
      replace VX := VX.next hb6
      replace CX := CX.next hb6
      replace HP := HP.next hb6
      replace A := A.next hb6
      replace CA := CA.next hb6
      replace HB := below_chain HB hb6
      clear hb6
      have hb7 : Below w6.heap.size w6 (w6.alloc (.cells #[.bool tb, .slice to' tn tc, .slice uo un uc] 24)) := below_alloc _
      have B := Bk.start HB rfl (.bool tb) (.slice to' tn tc) (.slice uo un uc) 24
      have fv : Fit 2 (v : Rat) := fit_int (lim_small2 (by omega)) (by decide)
      replace X := X.next hb7
      replace VX := VX.next hb7
      replace CX := CX.next hb7
      replace HP := HP.next hb7
      replace A := A.next hb7
      replace CA := CA.next hb7
      replace CB := CB.next hb7
      replace HB := below_chain HB hb7
      clear hb7
      go_wp2_with fail
      refine (Whole_any (v : Rat) _ _ (CB.toV fv (by decide))).mono ?_
      unfold WholeR
      rw [hw.out.1, hw.out.2]
      rintro e w8 ⟨rfl, hb8⟩
      replace X := X.next hb8
      replace VX := VX.next hb8
      replace CX := CX.next hb8
      replace HP := HP.next hb8
      replace A := A.next hb8
      replace CA := CA.next hb8
      replace HB := below_chain HB hb8
      clear hb8
      go_wp2_with fail
      refine (lawake_any _ HP).mono ?_; rintro e w9 ⟨rfl, hb9⟩
      replace X := X.next hb9
      replace VX := VX.next hb9
      replace CX := CX.next hb9
      replace HP := HP.next hb9
      replace A := A.next hb9
      replace CA := CA.next hb9
      replace HB := below_chain HB hb9
      clear hb9
      obtain ⟨a0, a1, a2⟩ := A.c3
      obtain ⟨x0, x1, x2⟩ := X.c3
      go_wp2_with fail
      refine (rSameE x x rfl _ _ _ CX CA).mono ?_; rintro e wa ⟨rfl, hba⟩
      clear a0 a1 a2 x0 x1 x2
      replace HB := below_chain HB hba
      go_wp2_with fail
      go_ret
      exact ⟨rfl, HB⟩

end Go.Proofs.YtjppjhjfogjhaaaGreatDoor
