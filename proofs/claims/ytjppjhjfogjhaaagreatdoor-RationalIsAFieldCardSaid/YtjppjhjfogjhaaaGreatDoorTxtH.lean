/-
  The contract of rational.Parse. No condition but sizes.
-/
import Derived.Test.YtjppjhjfogjhaaaGreatDoorTxtG
namespace Go.Proofs.YtjppjhjfogjhaaaGreatDoor
open Go.RowKit Go.Lib
set_option linter.unusedSimpArgs false
set_option linter.unusedVariables false

theorem sign_facts (l : List UInt8) : Lib.trimPrefix l [45] = noSign l ∧ Lib.hasPrefix l [45] = isNeg l := by
  cases l with
  | nil => exact ⟨rfl, rfl⟩
  | cons b l =>
    by_cases h : b = 45
    · subst h
      exact ⟨by simp [Lib.trimPrefix, Lib.hasPrefix, noSign], by simp [Lib.hasPrefix, isNeg]⟩
    · have h' : (45 == b) = false := by simpa using fun e => h e.symm
      have h2 : ¬ (45 : UInt8) = b := fun e => h e.symm
      exact ⟨by simp [Lib.trimPrefix, Lib.hasPrefix, noSign, h, h', h2], by simp [Lib.hasPrefix, isNeg, h, h', h2, List.isPrefixOf]⟩

theorem noSign_len (l : List UInt8) : (noSign l).length ≤ l.length := by
  unfold noSign; split
  · simp
  · exact Nat.le_refl _

theorem cutSl_len (l : List UInt8) : (cutSl l).1.length ≤ l.length ∧ (cutSl l).2.length ≤ l.length + 1 := by
  unfold cutSl
  split
  · refine ⟨List.Sublist.length_le (List.takeWhile_sublist _), ?_⟩
    have := List.Sublist.length_le (List.dropWhile_sublist (l := l) (· ≠ 47))
    simp only [List.length_tail]
    omega
  · exact ⟨Nat.le_refl _, by simp⟩

/-- A numeral's length, its number; where it is not 0, its number is not. -/
theorem okDec_facts {l : List UInt8} (h : okDec l = true) : l.length ≤ 2000 ∧ decFrom 0 l = some (valDec l) ∧ (l ≠ [48] → valDec l ≠ 0) := by
  unfold okDec at h
  simp only [Bool.and_eq_true, decide_eq_true_eq, Bool.or_eq_true, Bool.not_eq_true', List.isEmpty_eq_false_iff] at h
  obtain ⟨⟨⟨h1, h2⟩, h3⟩, h4⟩ := h
  obtain ⟨n, hn⟩ := Option.isSome_iff_exists.1 h4
  have hv : valDec l = n := by unfold valDec; rw [hn]; rfl
  refine ⟨h2, by rw [hv]; exact hn, fun h0 => ?_⟩
  rw [hv]
  have := (dec_unique l h1 (by rcases h3 with h3 | h3; exact absurd h3 h0; exact h3) n hn).2
  omega

/-- What Parse returns. -/
def ParseOut (w : World) (l : List UInt8) (e : Ending) (w' : World) : Prop := ∃ v, e = .returned (.tuple #[v, .bool (parseOk l)]) ∧ RatC w' v (parseQ l) ∧ Below w.heap.size w w'

theorem Res.parse {w W : World} {G : Nat} {b0 : Bool} {a1 a2 : Option Addr} {n1 n2 k1 k2 : Nat} (h : Res w G b0 a1 n1 k1 a2 n2 k2 W) {l : List UInt8} {q : Rat} (hq : parseQ l = q) {c : Bool} (hc : parseOk l = c) {neg : Bool} {ao bo : Option Addr} {n cap m cap' : Nat}
    (C : RatC W (.agg #[.bool neg, .slice ao n cap, .slice bo m cap']) q) :
    ParseOut w l (.returned (.tuple #[.agg #[.bool neg, .slice ao n cap, .slice bo m cap'], .bool c])) (((W.setCell ⟨G, 0, none⟩ (.bool neg)).setCell ⟨G, 1, none⟩ (.slice ao n cap)).setCell ⟨G, 2, none⟩ (.slice bo m cap')) := by
  subst hq hc
  obtain ⟨v, hv, C', hb⟩ := h.rc C
  injection hv with hv
  subst hv
  exact ⟨_, rfl, C', hb⟩

set_option maxHeartbeats 2000000 in
theorem Parse_any (s : ByteArray) (hs : s.size ≤ 9223372036854775000) (w : World) :
    Calls Tryz.prog 18 #[.string s] w (ParseOut w s.data.toList) := by
  obtain ⟨l, hl⟩ : ∃ l, s.data.toList = l := ⟨_, rfl⟩
  have hll : l.length ≤ 9223372036854775000 := by rw [← hl, ← Lib.size_eq]; exact hs
  have hr := Res.start (Below.refl w.heap.size w) false none 0 0 none 0 0 24
  have hsf := hid (sign_facts l)
  have hnl := noSign_len l
  have hcl := cutSl_len (noSign l)
  have hC := Tryz.strings_CutPrefix s ⟨#[45]⟩
  have e45 : (⟨#[45]⟩ : ByteArray).data.toList = [45] := rfl
  rw [hl, e45, hsf.out.1, hsf.out.2] at hC
  obtain ⟨t, ht⟩ : ∃ t : ByteArray, (⟨(noSign l).toArray⟩ : ByteArray) = t := ⟨_, rfl⟩
  rw [ht] at hC
  have htl : t.data.toList = noSign l := by rw [← ht]
  have hts : t.size ≤ 9223372036854775000 := by rw [Lib.size_eq, htl]; omega
  have hCut := cut_any t (by omega)
  rw [htl] at hCut
  obtain ⟨neg, hneg⟩ : ∃ b, isNeg l = b := ⟨_, rfl⟩
  rw [hneg] at hC
  rw [hl]
  have Hneg := hid hneg
  have HC := hid hC; have HCut := hid hCut
  clear hC hCut hsf e45 ht hl htl hneg
  go_enter Tryz.func18, Tryz.ntmps18
  go_wp2_with fail
  refine (HC.out _).mono ?_; rintro e w1 ⟨rfl, rfl⟩
  go_wp2_with fail
  refine (HCut.out _).mono ?_; rintro e w2 ⟨a, b, rfl, ha, hb, hb1⟩
  have hr1 := hr.next hb1
  have hat : a.size ≤ 9223372036854775807 := by rw [Lib.size_eq, ha]; omega
  have ha := hid ha
  obtain ⟨A, hA⟩ : ∃ A, (cutSl (noSign l)).1 = A := ⟨_, rfl⟩
  obtain ⟨D, hD⟩ : ∃ D, (cutSl (noSign l)).2 = D := ⟨_, rfl⟩
  have hok : Hid (parseOk l = (okDec A && okDec D && decide (D ≠ [48]))) := hid (by unfold parseOk; rw [hA, hD])
  have hpq : Hid (parseQ l = if parseOk l then mkRat (sgn neg (valDec A)) (valDec D) else 0) := hid (by unfold parseQ; rw [hA, hD, Hneg.out])
  have hDl : D.length ≤ 9223372036854775807 := by rw [← hD]; omega
  rw [hA] at ha
  rw [hD] at hb
  have hb := hid hb
  have hDc : Hid (47 ∉ noSign l → D = [49]) := hid (fun h => by rw [← hD]; unfold cutSl; rw [if_neg h])
  have hda := fun W => decimal_any a hat W
  have hna := fun (n : Nat) h1 h2 W => numberD_any a n h1 h2 W
  rw [ha.out] at hda hna
  have haz := Lib.size_eq a
  rw [ha.out] at haz
  have Hda := hid hda; have Hna := hid hna; have Haz := hid haz
  clear hA hD hda hna haz HC HCut hnl hcl hll hs hts
  by_cases hm : 47 ∈ noSign l
  · rw [decide_eq_true hm]
    have hdd : b.data.toList = D := hb.out hm
    clear hm hDc
    have hdz := Lib.size_eq b
    rw [hdd] at hdz
    have hdt : ByteArray.size b ≤ 9223372036854775807 := by omega
    have hdb := fun W => decimal_any b hdt W
    have hnb := fun (n : Nat) h1 h2 W => numberD_any b n h1 h2 W
    have he0 : ByteArray.toList b = D := by rw [Lib.toList_data]; exact hdd
    rw [hdd] at hdb hnb
    have Hdb := hid hdb; have Hnb := hid hnb; have Hdz := hid hdz; have He0 := hid he0
    clear hdb hnb hdz hdd hDl he0
    cases h1 : okDec A with
    | false =>
      rw [h1] at hok Hda
      have hpo : Hid (parseOk l = false) := hid (by rw [hok.out]; rfl)
      have hp0 : Hid (parseQ l = 0) := hid (by rw [hpq.out, hpo.out]; rfl)
      clear h1
      go_wp2_with fail
      refine (Hda.out _).mono ?_; rintro e w3 ⟨rfl, hb3⟩
      have hr3 := hr1.next hb3
      obtain ⟨d0, d1, d2, g0, g1, g2, _, _, _, _⟩ := hr1.next hb3
      go_wp2_with fail
      refine bodyPost_ret (v := .tuple #[.agg #[.bool false, .slice none 0 0, .slice none 0 0], .bool false]) (by simp [results, Tryz.results18, go_sem, d0, d1, d2]) rfl ?_
      exact hr3.parse hp0.out hpo.out (ratC_zero _)
    | true =>
      have hfA := okDec_facts h1
      rw [h1] at hok Hda
      clear h1
      cases h2 : okDec D with
      | false =>
        rw [h2] at hok Hdb
        have hpo : Hid (parseOk l = false) := hid (by rw [hok.out]; rfl)
        have hp0 : Hid (parseQ l = 0) := hid (by rw [hpq.out, hpo.out]; rfl)
        clear h2 hfA
        go_wp2_with fail
        refine (Hda.out _).mono ?_; rintro e w3 ⟨rfl, hb3⟩
        go_wp2_with fail
        refine (Hdb.out _).mono ?_; rintro e w4 ⟨rfl, hb4⟩
        have hr3 := (hr1.next hb3).next hb4
        obtain ⟨d0, d1, d2, g0, g1, g2, _, _, _, _⟩ := (hr1.next hb3).next hb4
        go_wp2_with fail
        refine bodyPost_ret (v := .tuple #[.agg #[.bool false, .slice none 0 0, .slice none 0 0], .bool false]) (by simp [results, Tryz.results18, go_sem, d0, d1, d2]) rfl ?_
        exact hr3.parse hp0.out hpo.out (ratC_zero _)
      | true =>
        have hfD := okDec_facts h2
        rw [h2] at hok Hdb
        clear h2
        by_cases h3 : D = [48]
        · have hpo : Hid (parseOk l = false) := hid (by rw [hok.out, decide_eq_false (not_not_intro h3)]; rfl)
          have hp0 : Hid (parseQ l = 0) := hid (by rw [hpq.out, hpo.out]; rfl)
          have e3 : (ByteArray.toList b == [48]) = true := by rw [He0.out, h3]; rfl
          clear hfA hfD h3
          go_wp2_with fail
          refine (Hda.out _).mono ?_; rintro e w3 ⟨rfl, hb3⟩
          go_wp2_with fail
          refine (Hdb.out _).mono ?_; rintro e w4 ⟨rfl, hb4⟩
          have hr3 := (hr1.next hb3).next hb4
          obtain ⟨d0, d1, d2, g0, g1, g2, _, _, _, _⟩ := (hr1.next hb3).next hb4
          go_wp2_with fail
          refine bodyPost_ret (v := .tuple #[.agg #[.bool false, .slice none 0 0, .slice none 0 0], .bool false]) (by simp [results, Tryz.results18, go_sem, d0, d1, d2]) rfl ?_
          exact hr3.parse hp0.out hpo.out (ratC_zero _)
        · have hpo : Hid (parseOk l = true) := hid (by rw [hok.out, decide_eq_true h3]; rfl)
          have hp0 : Hid (parseQ l = mkRat (sgn neg (valDec A)) (valDec D)) := hid (by rw [hpq.out, hpo.out]; rfl)
          have e3 : (ByteArray.toList b == [48]) = false := by rw [He0.out]; simpa using h3
          obtain ⟨lA, vA, _⟩ := hfA
          obtain ⟨lD, vD, nD⟩ := hfD
          have nD := nD h3
          have limA : lim (valDec A) ≤ 17179869184 := Nat.le_trans (lim_le (lim_dec vA)) (by omega)
          have limD : lim (valDec D) ≤ 17179869184 := Nat.le_trans (lim_le (lim_dec vD)) (by omega)
          have hcA := Hna.out (valDec A) (by rw [Haz.out]; exact lA) vA
          have hcD := Hnb.out (valDec D) (by rw [Hdz.out]; exact lD) vD
          generalize valDec A = x at *
          generalize valDec D = y at *
          have HcA := hid hcA; have HcD := hid hcD
          have VA := hid vA; have VD := hid vD; have ND := hid nD
          clear hcA hcD h3 vA vD nD
          go_wp2_with fail
          refine (Hda.out _).mono ?_; rintro e w3 ⟨rfl, hb3⟩
          go_wp2_with fail
          refine (Hdb.out _).mono ?_; rintro e w4 ⟨rfl, hb4⟩
          go_wp2_with fail
          refine (HcA.out _).mono ?_; rintro e w5 ⟨po, pn, pc, rfl, sp, hzp, hb5⟩
          go_wp2_with fail
          refine (HcD.out _).mono ?_; rintro e w6 ⟨qo, qn, qc, rfl, sq, hzq, hb6⟩
          go_wp2_with fail
          refine (rat_any neg x y _ _ ⟨po, qo, pn, pc, qn, qc, rfl, sp.next hb6, sq, hzp, hzq, ND.out⟩ limA limD).mono ?_; rintro e w7 ⟨v7, rfl, C7, hb7⟩
          obtain ⟨rb, ro, rn, rc, so, sn, sc, rfl⟩ := C7.shape
          have hr3 := ((((hr1.next hb3).next hb4).next hb5).next hb6).next hb7
          obtain ⟨d0, d1, d2, g0, g1, g2, _, _, _, _⟩ := ((((hr1.next hb3).next hb4).next hb5).next hb6).next hb7
          go_wp2_with fail
          refine bodyPost_ret (v := .tuple #[.agg #[.bool rb, .slice ro rn rc, .slice so sn sc], .bool true]) (by simp [results, Tryz.results18, go_sem, d0, d1, d2]) rfl ?_
          exact hr3.parse hp0.out hpo.out C7
  · rw [decide_eq_false hm]
    have hdd : (⟨#[49]⟩ : ByteArray).data.toList = D := (hDc.out hm).symm
    clear hm hDc
    have hdz := Lib.size_eq (⟨#[49]⟩ : ByteArray)
    rw [hdd] at hdz
    have hdt : ByteArray.size (⟨#[49]⟩ : ByteArray) ≤ 9223372036854775807 := by omega
    have hdb := fun W => decimal_any (⟨#[49]⟩ : ByteArray) hdt W
    have hnb := fun (n : Nat) h1 h2 W => numberD_any (⟨#[49]⟩ : ByteArray) n h1 h2 W
    have he0 : ByteArray.toList (⟨#[49]⟩ : ByteArray) = D := by rw [Lib.toList_data]; exact hdd
    rw [hdd] at hdb hnb
    have Hdb := hid hdb; have Hnb := hid hnb; have Hdz := hid hdz; have He0 := hid he0
    clear hdb hnb hdz hdd hDl he0
    cases h1 : okDec A with
    | false =>
      rw [h1] at hok Hda
      have hpo : Hid (parseOk l = false) := hid (by rw [hok.out]; rfl)
      have hp0 : Hid (parseQ l = 0) := hid (by rw [hpq.out, hpo.out]; rfl)
      clear h1
      go_wp2_with fail
      refine (Hda.out _).mono ?_; rintro e w3 ⟨rfl, hb3⟩
      have hr3 := hr1.next hb3
      obtain ⟨d0, d1, d2, g0, g1, g2, _, _, _, _⟩ := hr1.next hb3
      go_wp2_with fail
      refine bodyPost_ret (v := .tuple #[.agg #[.bool false, .slice none 0 0, .slice none 0 0], .bool false]) (by simp [results, Tryz.results18, go_sem, d0, d1, d2]) rfl ?_
      exact hr3.parse hp0.out hpo.out (ratC_zero _)
    | true =>
      have hfA := okDec_facts h1
      rw [h1] at hok Hda
      clear h1
      cases h2 : okDec D with
      | false =>
        rw [h2] at hok Hdb
        have hpo : Hid (parseOk l = false) := hid (by rw [hok.out]; rfl)
        have hp0 : Hid (parseQ l = 0) := hid (by rw [hpq.out, hpo.out]; rfl)
        clear h2 hfA
        go_wp2_with fail
        refine (Hda.out _).mono ?_; rintro e w3 ⟨rfl, hb3⟩
        go_wp2_with fail
        refine (Hdb.out _).mono ?_; rintro e w4 ⟨rfl, hb4⟩
        have hr3 := (hr1.next hb3).next hb4
        obtain ⟨d0, d1, d2, g0, g1, g2, _, _, _, _⟩ := (hr1.next hb3).next hb4
        go_wp2_with fail
        refine bodyPost_ret (v := .tuple #[.agg #[.bool false, .slice none 0 0, .slice none 0 0], .bool false]) (by simp [results, Tryz.results18, go_sem, d0, d1, d2]) rfl ?_
        exact hr3.parse hp0.out hpo.out (ratC_zero _)
      | true =>
        have hfD := okDec_facts h2
        rw [h2] at hok Hdb
        clear h2
        by_cases h3 : D = [48]
        · exfalso
          have := He0.out
          rw [h3] at this
          rw [Lib.toList_data] at this
          exact absurd this (by decide)
        · have hpo : Hid (parseOk l = true) := hid (by rw [hok.out, decide_eq_true h3]; rfl)
          have hp0 : Hid (parseQ l = mkRat (sgn neg (valDec A)) (valDec D)) := hid (by rw [hpq.out, hpo.out]; rfl)
          have e3 : (ByteArray.toList (⟨#[49]⟩ : ByteArray) == [48]) = false := by rw [He0.out]; simpa using h3
          obtain ⟨lA, vA, _⟩ := hfA
          obtain ⟨lD, vD, nD⟩ := hfD
          have nD := nD h3
          have limA : lim (valDec A) ≤ 17179869184 := Nat.le_trans (lim_le (lim_dec vA)) (by omega)
          have limD : lim (valDec D) ≤ 17179869184 := Nat.le_trans (lim_le (lim_dec vD)) (by omega)
          have hcA := Hna.out (valDec A) (by rw [Haz.out]; exact lA) vA
          have hcD := Hnb.out (valDec D) (by rw [Hdz.out]; exact lD) vD
          generalize valDec A = x at *
          generalize valDec D = y at *
          have HcA := hid hcA; have HcD := hid hcD
          have VA := hid vA; have VD := hid vD; have ND := hid nD
          clear hcA hcD h3 vA vD nD
          go_wp2_with fail
          refine (Hda.out _).mono ?_; rintro e w3 ⟨rfl, hb3⟩
          go_wp2_with fail
          refine (Hdb.out _).mono ?_; rintro e w4 ⟨rfl, hb4⟩
          go_wp2_with fail
          refine (HcA.out _).mono ?_; rintro e w5 ⟨po, pn, pc, rfl, sp, hzp, hb5⟩
          go_wp2_with fail
          refine (HcD.out _).mono ?_; rintro e w6 ⟨qo, qn, qc, rfl, sq, hzq, hb6⟩
          go_wp2_with fail
          refine (rat_any neg x y _ _ ⟨po, qo, pn, pc, qn, qc, rfl, sp.next hb6, sq, hzp, hzq, ND.out⟩ limA limD).mono ?_; rintro e w7 ⟨v7, rfl, C7, hb7⟩
          obtain ⟨rb, ro, rn, rc, so, sn, sc, rfl⟩ := C7.shape
          have hr3 := ((((hr1.next hb3).next hb4).next hb5).next hb6).next hb7
          obtain ⟨d0, d1, d2, g0, g1, g2, _, _, _, _⟩ := ((((hr1.next hb3).next hb4).next hb5).next hb6).next hb7
          go_wp2_with fail
          refine bodyPost_ret (v := .tuple #[.agg #[.bool rb, .slice ro rn rc, .slice so sn sc], .bool true]) (by simp [results, Tryz.results18, go_sem, d0, d1, d2]) rfl ?_
          exact hr3.parse hp0.out hpo.out C7

end Go.Proofs.YtjppjhjfogjhaaaGreatDoor
