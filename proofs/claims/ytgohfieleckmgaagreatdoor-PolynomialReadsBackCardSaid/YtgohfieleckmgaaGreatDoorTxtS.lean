/-
  Joined out of XTxtF, XTxtG, XTxtH.
-/
import Derived.Test.YtgohfieleckmgaaGreatDoorTxtR

/-
  The contracts of the reference's digits. No condition but sizes.
-/
namespace Go.Proofs.YtgohfieleckmgaaGreatDoor
open Go.RowKit Go.Lib
set_option linter.unusedSimpArgs false
set_option linter.unusedVariables false

theorem dig_ten : dig 10 = [10] := by rw [dig_pos (by decide), show 10 / 4294967296 = 0 from rfl, dig_zero]

set_option maxHeartbeats 1000000 in
set_option maxRecDepth 100000 in
theorem rdigits_any (a : Nat) (ao : Option Addr) (n cap : Nat) (w : World) (hA : Sl w ao n cap (u32s (dig a))) (hn : n ≤ 16777216) :
    Calls Tryz.prog 178 #[.slice ao n cap] w (StrOut w (decDigits a)) := by
  have hla : (decDigits a).length ≤ 600000000 := by
    have := dec_len_le (n := a) (m := n) (by rw [lim, hA.lenU]; exact Nat.le_refl _)
    omega
  go_enter Tryz.func178, Tryz.ntmps178
  go_wp2_with fail
  go_loopg [0, 3] a (fun x av sv wr => ∃ (t : ByteArray) (xo : Option Addr) (xn xc : Nat), av = .slice xo xn xc ∧ sv = .string t ∧ Sl wr xo xn xc (u32s (dig x)) ∧ xn ≤ n ∧ Hid (decDigits a = decDigits x ++ t.data.toList) ∧ Below w.heap.size w wr)
  case atStart => exact ⟨⟨#[]⟩, ao, n, cap, rfl, rfl, hA, Nat.le_refl _, hid (by simp), Below.refl _ _⟩
  case round =>
    obtain ⟨t, xo, xn, xc, rfl, rfl, sx, hxn, hdec, hbel⟩ := hrel
    have ht : t.size ≤ 600000000 := by
      have := congrArg List.length hdec.out
      rw [List.length_append, ← Lib.size_eq] at this
      omega
    have hxl := hid sx.lenU
    have s10 := (one_limb (w := wr) 10 (by decide)).1
    rw [← dig_ten] at s10
    have hb1 : Below wr.heap.size wr (wr.alloc (.cells #[.int .u32 ((10 : Nat) : Int)] 102)) := below_alloc _
    have sx1 := sx.next hb1
    simp only [Int.cast_ofNat_Int] at s10 sx1 hb1
    have hr : gk % 10 < 10 := Nat.mod_lt _ (by decide)
    have hq : Hid (gk / 10 < 4294967296 ^ xn) := hid (Nat.lt_of_le_of_lt (Nat.div_le_self _ _) (by rw [← hxl.out]; exact dig_lt gk))
    have hstep : Hid ((gk / 10 = 0 → decDigits gk = [UInt8.ofNat (48 + gk % 10)]) ∧ (gk / 10 ≠ 0 → gk / 10 < gk ∧ decDigits gk = decDigits (gk / 10) ++ [UInt8.ofNat (48 + gk % 10)])) := hid ⟨fun h => by rw [decDigits_one (by omega), Nat.mod_eq_of_lt (by omega)], fun h => ⟨by omega, dec_ten (by omega)⟩⟩
    have hlimb : gk % 10 / 4294967296 ^ 0 % 4294967296 = gk % 10 := by rw [Nat.pow_zero, Nat.div_one]; exact Nat.mod_eq_of_lt (by omega)
    have hdiv := hid (divide_any gk 10 (by decide) _ _ _ _ _ _ _ sx1 s10 (by omega) (by decide))
    generalize gk % 10 = r at *
    generalize hqq : gk / 10 = Q at *
    have Hqq := hid hqq
    have Hlimb := hid hlimb
    clear hqq hlimb
    go_wp2_with fail
    refine hdiv.out.mono ?_; rintro e w1 ⟨qo, qn, qc, ro, rn, rc, rfl, sq, sr, hzq, hzr, hb2⟩
    clear hdiv
    go_wp2_with fail
    refine (limbD r 0 0 r rfl Hlimb.out _ _ _ _ sr).mono ?_; rintro e w2 ⟨rfl, rfl⟩
    have kc : (convert 91 9 (.slice (some ⟨w1.heap.size, 0, none⟩) 1 1)).run Tryz.prog (w1.alloc (.cells #[.int .u8 (48 + (r : Int))] 5)) = .ok (.string ⟨#[UInt8.ofNat (48 + r)]⟩) (w1.alloc (.cells #[.int .u8 (48 + (r : Int))] 5)) :=
      run_convert_bytes_back (P := Tryz.prog) (w1.alloc (.cells #[.int .u8 (48 + (r : Int))] 5)) 91 9 5 ⟨w1.heap.size, 0, none⟩ 1 [UInt8.ofNat (48 + r)] Tryz.underlying91 Tryz.underlying5 Tryz.underlying9 (fun j hj => by
        simp at hj
        subst hj
        have : (48 + r) % 256 = 48 + r := Nat.mod_eq_of_lt (by omega)
        simp [go_sem, this])
    obtain ⟨c, hc⟩ : ∃ c : ByteArray, (⟨#[UInt8.ofNat (48 + r)]⟩ : ByteArray) = c := ⟨_, rfl⟩
    rw [hc] at kc
    have hcz : c.size = 1 := by rw [← hc]; rfl
    have hcd : Hid (c.data.toList = [UInt8.ofNat (48 + r)]) := hid (by rw [← hc])
    clear hc
    have hbel2 : Below w.heap.size w (w1.alloc (.cells #[.int .u8 (48 + (r : Int))] 5)) := by
      have := below_chain (below_chain hbel hb1) hb2
      exact this.alloc this.size _
    have sq2 := sq.next (below_alloc (.cells #[.int .u8 (48 + (r : Int))] 5))
    have hql := hid sq.lenU
    cases hQ : Q with
    | zero =>
      rw [hQ] at hql hstep
      rw [dig_zero] at hql
      obtain rfl : qn = 0 := by have := hql.out; simpa using this.symm
      have hres : Hid (decDigits a = c.data.toList ++ t.data.toList) := hid (by rw [hdec.out, hstep.out.1 rfl, hcd.out])
      clear hQ hstep hql hcd
      go_wp2_with fail
      go_ret
      exact ⟨_, rfl, by rw [hres.out, Go.Joins.data_append], hbel2⟩
    | succ Q' =>
      have hQ0 : Q ≠ 0 := by omega
      have hst := hstep.out.2 hQ0
      have hqn : 1 ≤ qn := by
        rw [← hql.out]
        have : dig Q ≠ [] := fun h => hQ0 (dig_nil.1 h)
        cases h : dig Q with
        | nil => exact absurd h this
        | cons _ _ => simp
      have hm : Q < gk := hst.1
      have hqx : qn ≤ xn := sq.lenD hq.out
      have hres : Hid (decDigits a = decDigits Q ++ (c ++ t).data.toList) := hid (by rw [hdec.out, hst.2, Go.Joins.data_append, hcd.out]; simp)
      clear hQ hstep hql hQ0 hst hcd
      go_wp2_with fail
      go_roundg Q
      case measure => exact hm
      case rel => exact ⟨c ++ t, qo, qn, qc, rfl, rfl, sq2, by omega, hres, hbel2⟩

end Go.Proofs.YtgohfieleckmgaaGreatDoor

/-
  The contract of the reference's Format. No condition but sizes.
-/
namespace Go.Proofs.YtgohfieleckmgaaGreatDoor
open Go.RowKit Go.Lib
set_option linter.unusedSimpArgs false
set_option linter.unusedVariables false

set_option maxHeartbeats 2000000 in
theorem rFormat_any (q : Rat) (v : Value) (w : World) (h : RatV w v q) (k : Nat) (hq : Fit k q) (hk : k ≤ 16777216) :
    Calls Tryz.prog 151 #[v] w (StrOut w (fmtQ q)) := by
  obtain ⟨s, ao, n, cap, bo, m, cap', rfl⟩ := h.shape
  have hB := Bk.start (Below.refl w.heap.size w) rfl (.bool s) (.slice ao n cap) (.slice bo m cap') 25
  obtain ⟨hq1, hq2⟩ := hq
  have hqn : lim q.num.natAbs ≤ 16777216 := Nat.le_trans hq1 hk
  have hqd : lim q.den ≤ 16777216 := Nat.le_trans hq2 hk
  have hfmt : Hid (fmtQ q = (if decide (q.num < 0) then [45] else []) ++ decDigits q.num.natAbs ++ (if q.den = 1 then [] else 47 :: decDigits q.den)) := hid (by
    unfold fmtQ; by_cases hn : q.num < 0 <;> simp [hn])
  go_enter Tryz.func151, Tryz.ntmps151
  go_wp2_with fail
  refine (rTake_any q _ _ (h.next hB.bel)).mono ?_; rintro e w1 ⟨v1, rfl, C1, hb1⟩
  obtain ⟨rb, ro, rn, rc, so, sn, sc, rfl⟩ := C1.shape
  have hB1 := hB.next hb1
  have c1 := C1.putOther hB1.res (.bool rb) (.slice ro rn rc) (.slice so sn sc)
  have b1 := hB1.put (.bool rb) (.slice ro rn rc) (.slice so sn sc)
  obtain ⟨d0, d1, d2⟩ := hB1.c3
  have f0 := hB1.free 0
  have f1 := hB1.free 1
  have f2 := hB1.free 2
  obtain ⟨hrb, sA, sD, zA, zD⟩ := c1.parts
  rw [← hrb] at hfmt
  have hxn : rn ≤ 16777216 := by rw [← sA.lenU]; exact hqn
  clear hrb C1 c1 hB hB1 h
  go_wp2_with fail
  refine (rdigits_any _ _ _ _ _ sA hxn).mono ?_; rintro e w2 ⟨s1, rfl, hs1, hb2⟩
  have hz1 : s1.size ≤ 600000000 := by rw [Lib.size_eq, hs1]; have := dec_len_le hqn; omega
  have hs1 := hid hs1
  have b2 := b1.next hb2
  have sD2 := sD.next hb2
  obtain ⟨c0, c1, c2⟩ := b2.c3
  have hbel2 := b2.bel
  have hdl := hid sD2.lenU
  clear d0 d1 d2 f0 f1 f2 b1 sD sA hb2
  cases rb with
  | true =>
    rw [if_pos rfl] at hfmt
    by_cases hd1 : q.den = 1
    · rw [if_pos hd1] at hfmt
      unfold denL at hdl sD2
      rw [if_pos hd1] at hdl sD2
      obtain rfl : sn = 0 := by have := hdl.out; simpa using this.symm
      clear hdl hd1
      go_wp2_with fail
      go_ret
      exact ⟨_, rfl, by rw [hfmt.out, List.append_nil]; simp [Go.Joins.data_append, hs1.out], hbel2⟩
    · rw [if_neg hd1] at hfmt
      unfold denL at hdl sD2
      rw [if_neg hd1] at hdl sD2
      have hsn : 1 ≤ sn := by
        rw [← hdl.out]
        have : dig q.den ≠ [] := fun h => q.den_nz (dig_nil.1 h)
        cases h : dig q.den with
        | nil => exact absurd h this
        | cons _ _ => simp
      have hsn2 : sn ≤ 16777216 := by rw [← hdl.out]; exact hqd
      clear hdl hd1
      go_wp2_with fail
      refine (rdigits_any _ _ _ _ _ sD2 hsn2).mono ?_; rintro e w4 ⟨s2, rfl, hs2, hb4⟩
      have hz2 : s2.size ≤ 600000000 := by rw [Lib.size_eq, hs2]; have := dec_len_le hqd; omega
      have hs2 := hid hs2
      have hbel4 := below_chain hbel2 hb4
      clear c0 c1 c2
      go_wp2_with fail
      go_ret
      exact ⟨_, rfl, by rw [hfmt.out]; simp [Go.Joins.data_append, hs1.out, hs2.out], hbel4⟩
  | false =>
    rw [if_neg (by decide)] at hfmt
    by_cases hd1 : q.den = 1
    · rw [if_pos hd1] at hfmt
      unfold denL at hdl sD2
      rw [if_pos hd1] at hdl sD2
      obtain rfl : sn = 0 := by have := hdl.out; simpa using this.symm
      clear hdl hd1
      go_wp2_with fail
      go_ret
      exact ⟨_, rfl, by rw [hfmt.out, List.append_nil]; simp [Go.Joins.data_append, hs1.out], hbel2⟩
    · rw [if_neg hd1] at hfmt
      unfold denL at hdl sD2
      rw [if_neg hd1] at hdl sD2
      have hsn : 1 ≤ sn := by
        rw [← hdl.out]
        have : dig q.den ≠ [] := fun h => q.den_nz (dig_nil.1 h)
        cases h : dig q.den with
        | nil => exact absurd h this
        | cons _ _ => simp
      have hsn2 : sn ≤ 16777216 := by rw [← hdl.out]; exact hqd
      clear hdl hd1
      go_wp2_with fail
      refine (rdigits_any _ _ _ _ _ sD2 hsn2).mono ?_; rintro e w4 ⟨s2, rfl, hs2, hb4⟩
      have hz2 : s2.size ≤ 600000000 := by rw [Lib.size_eq, hs2]; have := dec_len_le hqd; omega
      have hs2 := hid hs2
      have hbel4 := below_chain hbel2 hb4
      clear c0 c1 c2
      go_wp2_with fail
      go_ret
      exact ⟨_, rfl, by rw [hfmt.out]; simp [Go.Joins.data_append, hs1.out, hs2.out], hbel4⟩

end Go.Proofs.YtgohfieleckmgaaGreatDoor

/-
  The contract of rational.Parse. No condition but sizes.
-/
namespace Go.Proofs.YtgohfieleckmgaaGreatDoor
open Go.RowKit Go.Lib
set_option linter.unusedSimpArgs false
set_option linter.unusedVariables false

theorem sign_facts (l : List UInt8) : Lib.trimPrefix l [45] = noSign l ∧ Lib.hasPrefix l [45] = isNeg l := by
  cases l with
  | nil => exact ⟨rfl, rfl⟩
  | cons b l =>
    by_cases h : b = 45
    · subst h
      exact ⟨by simp [Lib.trimPrefix, Lib.hasPrefix, noSign], by simp [Lib.hasPrefix, isNeg]⟩
    · have h' : (45 == b) = false := by simpa using fun e => h e.symm
      have h2 : ¬ (45 : UInt8) = b := fun e => h e.symm
      exact ⟨by simp [Lib.trimPrefix, Lib.hasPrefix, noSign, h, h', h2], by simp [Lib.hasPrefix, isNeg, h, h', h2, List.isPrefixOf]⟩

theorem noSign_len (l : List UInt8) : (noSign l).length ≤ l.length := by
  unfold noSign; split
  · simp
  · exact Nat.le_refl _

theorem cutSl_len (l : List UInt8) : (cutSl l).1.length ≤ l.length ∧ (cutSl l).2.length ≤ l.length + 1 := by
  unfold cutSl
  split
  · refine ⟨List.Sublist.length_le (List.takeWhile_sublist _), ?_⟩
    have := List.Sublist.length_le (List.dropWhile_sublist (l := l) (· ≠ 47))
    simp only [List.length_tail]
    omega
  · exact ⟨Nat.le_refl _, by simp⟩

/-- A numeral's length, its number; where it is not 0, its number is not. -/
theorem okDec_facts {l : List UInt8} (h : okDec l = true) : l.length ≤ 2000 ∧ decFrom 0 l = some (valDec l) ∧ (l ≠ [48] → valDec l ≠ 0) := by
  unfold okDec at h
  simp only [Bool.and_eq_true, decide_eq_true_eq, Bool.or_eq_true, Bool.not_eq_true', List.isEmpty_eq_false_iff] at h
  obtain ⟨⟨⟨h1, h2⟩, h3⟩, h4⟩ := h
  obtain ⟨n, hn⟩ := Option.isSome_iff_exists.1 h4
  have hv : valDec l = n := by unfold valDec; rw [hn]; rfl
  refine ⟨h2, by rw [hv]; exact hn, fun h0 => ?_⟩
  rw [hv]
  have := (dec_unique l h1 (by rcases h3 with h3 | h3; exact absurd h3 h0; exact h3) n hn).2
  omega

/-- What Parse returns. -/
def ParseOut (w : World) (l : List UInt8) (e : Ending) (w' : World) : Prop := ∃ v, e = .returned (.tuple #[v, .bool (parseOk l)]) ∧ RatC w' v (parseQ l) ∧ Below w.heap.size w w'

theorem Res.parse {w W : World} {G : Nat} {b0 : Bool} {a1 a2 : Option Addr} {n1 n2 k1 k2 : Nat} (h : Res w G b0 a1 n1 k1 a2 n2 k2 W) {l : List UInt8} {q : Rat} (hq : parseQ l = q) {c : Bool} (hc : parseOk l = c) {neg : Bool} {ao bo : Option Addr} {n cap m cap' : Nat}
    (C : RatC W (.agg #[.bool neg, .slice ao n cap, .slice bo m cap']) q) :
    ParseOut w l (.returned (.tuple #[.agg #[.bool neg, .slice ao n cap, .slice bo m cap'], .bool c])) (((W.setCell ⟨G, 0, none⟩ (.bool neg)).setCell ⟨G, 1, none⟩ (.slice ao n cap)).setCell ⟨G, 2, none⟩ (.slice bo m cap')) := by
  subst hq hc
  obtain ⟨v, hv, C', hb⟩ := h.rc C
  injection hv with hv
  subst hv
  exact ⟨_, rfl, C', hb⟩

set_option maxHeartbeats 2000000 in
theorem Parse_any (s : ByteArray) (hs : s.size ≤ 9223372036854775000) (w : World) :
    Calls Tryz.prog 115 #[.string s] w (ParseOut w s.data.toList) := by
  obtain ⟨l, hl⟩ : ∃ l, s.data.toList = l := ⟨_, rfl⟩
  have hll : l.length ≤ 9223372036854775000 := by rw [← hl, ← Lib.size_eq]; exact hs
  have hr := Res.start (Below.refl w.heap.size w) false none 0 0 none 0 0 25
  have hsf := hid (sign_facts l)
  have hnl := noSign_len l
  have hcl := cutSl_len (noSign l)
  have hC := Tryz.strings_CutPrefix s ⟨#[45]⟩
  have e45 : (⟨#[45]⟩ : ByteArray).data.toList = [45] := rfl
  rw [hl, e45, hsf.out.1, hsf.out.2] at hC
  obtain ⟨t, ht⟩ : ∃ t : ByteArray, (⟨(noSign l).toArray⟩ : ByteArray) = t := ⟨_, rfl⟩
  rw [ht] at hC
  have htl : t.data.toList = noSign l := by rw [← ht]
  have hts : t.size ≤ 9223372036854775000 := by rw [Lib.size_eq, htl]; omega
  have hCut := cut_any t (by omega)
  rw [htl] at hCut
  obtain ⟨neg, hneg⟩ : ∃ b, isNeg l = b := ⟨_, rfl⟩
  rw [hneg] at hC
  rw [hl]
  have Hneg := hid hneg
  have HC := hid hC; have HCut := hid hCut
  clear hC hCut hsf e45 ht hl htl hneg
  go_enter Tryz.func115, Tryz.ntmps115
  go_wp2_with fail
  refine (HC.out _).mono ?_; rintro e w1 ⟨rfl, rfl⟩
  go_wp2_with fail
  refine (HCut.out _).mono ?_; rintro e w2 ⟨a, b, rfl, ha, hb, hb1⟩
  have hr1 := hr.next hb1
  have hat : a.size ≤ 9223372036854775807 := by rw [Lib.size_eq, ha]; omega
  have ha := hid ha
  obtain ⟨A, hA⟩ : ∃ A, (cutSl (noSign l)).1 = A := ⟨_, rfl⟩
  obtain ⟨D, hD⟩ : ∃ D, (cutSl (noSign l)).2 = D := ⟨_, rfl⟩
  have hok : Hid (parseOk l = (okDec A && okDec D && decide (D ≠ [48]))) := hid (by unfold parseOk; rw [hA, hD])
  have hpq : Hid (parseQ l = if parseOk l then mkRat (sgn neg (valDec A)) (valDec D) else 0) := hid (by unfold parseQ; rw [hA, hD, Hneg.out])
  have hDl : D.length ≤ 9223372036854775807 := by rw [← hD]; omega
  rw [hA] at ha
  rw [hD] at hb
  have hb := hid hb
  have hDc : Hid (47 ∉ noSign l → D = [49]) := hid (fun h => by rw [← hD]; unfold cutSl; rw [if_neg h])
  have hda := fun W => decimal_any a hat W
  have hna := fun (n : Nat) h1 h2 W => numberD_any a n h1 h2 W
  rw [ha.out] at hda hna
  have haz := Lib.size_eq a
  rw [ha.out] at haz
  have Hda := hid hda; have Hna := hid hna; have Haz := hid haz
  clear hA hD hda hna haz HC HCut hnl hcl hll hs hts
  by_cases hm : 47 ∈ noSign l
  · rw [decide_eq_true hm]
    have hdd : b.data.toList = D := hb.out hm
    clear hm hDc
    have hdz := Lib.size_eq b
    rw [hdd] at hdz
    have hdt : ByteArray.size b ≤ 9223372036854775807 := by omega
    have hdb := fun W => decimal_any b hdt W
    have hnb := fun (n : Nat) h1 h2 W => numberD_any b n h1 h2 W
    have he0 : ByteArray.toList b = D := by rw [Lib.toList_data]; exact hdd
    rw [hdd] at hdb hnb
    have Hdb := hid hdb; have Hnb := hid hnb; have Hdz := hid hdz; have He0 := hid he0
    clear hdb hnb hdz hdd hDl he0
    cases h1 : okDec A with
    | false =>
      rw [h1] at hok Hda
      have hpo : Hid (parseOk l = false) := hid (by rw [hok.out]; rfl)
      have hp0 : Hid (parseQ l = 0) := hid (by rw [hpq.out, hpo.out]; rfl)
      clear h1
      go_wp2_with fail
      refine (Hda.out _).mono ?_; rintro e w3 ⟨rfl, hb3⟩
      have hr3 := hr1.next hb3
      obtain ⟨d0, d1, d2, g0, g1, g2, _, _, _, _⟩ := hr1.next hb3
      go_wp2_with fail
      refine bodyPost_ret (v := .tuple #[.agg #[.bool false, .slice none 0 0, .slice none 0 0], .bool false]) (by simp [results, Tryz.results115, go_sem, d0, d1, d2]) rfl ?_
      exact hr3.parse hp0.out hpo.out (ratC_zero _)
    | true =>
      have hfA := okDec_facts h1
      rw [h1] at hok Hda
      clear h1
      cases h2 : okDec D with
      | false =>
        rw [h2] at hok Hdb
        have hpo : Hid (parseOk l = false) := hid (by rw [hok.out]; rfl)
        have hp0 : Hid (parseQ l = 0) := hid (by rw [hpq.out, hpo.out]; rfl)
        clear h2 hfA
        go_wp2_with fail
        refine (Hda.out _).mono ?_; rintro e w3 ⟨rfl, hb3⟩
        go_wp2_with fail
        refine (Hdb.out _).mono ?_; rintro e w4 ⟨rfl, hb4⟩
        have hr3 := (hr1.next hb3).next hb4
        obtain ⟨d0, d1, d2, g0, g1, g2, _, _, _, _⟩ := (hr1.next hb3).next hb4
        go_wp2_with fail
        refine bodyPost_ret (v := .tuple #[.agg #[.bool false, .slice none 0 0, .slice none 0 0], .bool false]) (by simp [results, Tryz.results115, go_sem, d0, d1, d2]) rfl ?_
        exact hr3.parse hp0.out hpo.out (ratC_zero _)
      | true =>
        have hfD := okDec_facts h2
        rw [h2] at hok Hdb
        clear h2
        by_cases h3 : D = [48]
        · have hpo : Hid (parseOk l = false) := hid (by rw [hok.out, decide_eq_false (not_not_intro h3)]; rfl)
          have hp0 : Hid (parseQ l = 0) := hid (by rw [hpq.out, hpo.out]; rfl)
          have e3 : (ByteArray.toList b == [48]) = true := by rw [He0.out, h3]; rfl
          clear hfA hfD h3
          go_wp2_with fail
          refine (Hda.out _).mono ?_; rintro e w3 ⟨rfl, hb3⟩
          go_wp2_with fail
          refine (Hdb.out _).mono ?_; rintro e w4 ⟨rfl, hb4⟩
          have hr3 := (hr1.next hb3).next hb4
          obtain ⟨d0, d1, d2, g0, g1, g2, _, _, _, _⟩ := (hr1.next hb3).next hb4
          go_wp2_with fail
          refine bodyPost_ret (v := .tuple #[.agg #[.bool false, .slice none 0 0, .slice none 0 0], .bool false]) (by simp [results, Tryz.results115, go_sem, d0, d1, d2]) rfl ?_
          exact hr3.parse hp0.out hpo.out (ratC_zero _)
        · have hpo : Hid (parseOk l = true) := hid (by rw [hok.out, decide_eq_true h3]; rfl)
          have hp0 : Hid (parseQ l = mkRat (sgn neg (valDec A)) (valDec D)) := hid (by rw [hpq.out, hpo.out]; rfl)
          have e3 : (ByteArray.toList b == [48]) = false := by rw [He0.out]; simpa using h3
          obtain ⟨lA, vA, _⟩ := hfA
          obtain ⟨lD, vD, nD⟩ := hfD
          have nD := nD h3
          have limA : lim (valDec A) ≤ 17179869184 := Nat.le_trans (lim_le (lim_dec vA)) (by omega)
          have limD : lim (valDec D) ≤ 17179869184 := Nat.le_trans (lim_le (lim_dec vD)) (by omega)
          have hcA := Hna.out (valDec A) (by rw [Haz.out]; exact lA) vA
          have hcD := Hnb.out (valDec D) (by rw [Hdz.out]; exact lD) vD
          generalize valDec A = x at *
          generalize valDec D = y at *
          have HcA := hid hcA; have HcD := hid hcD
          have VA := hid vA; have VD := hid vD; have ND := hid nD
          clear hcA hcD h3 vA vD nD
          go_wp2_with fail
          refine (Hda.out _).mono ?_; rintro e w3 ⟨rfl, hb3⟩
          go_wp2_with fail
          refine (Hdb.out _).mono ?_; rintro e w4 ⟨rfl, hb4⟩
          go_wp2_with fail
          refine (HcA.out _).mono ?_; rintro e w5 ⟨po, pn, pc, rfl, sp, hzp, hb5⟩
          go_wp2_with fail
          refine (HcD.out _).mono ?_; rintro e w6 ⟨qo, qn, qc, rfl, sq, hzq, hb6⟩
          go_wp2_with fail
          refine (rat_any neg x y _ _ ⟨po, qo, pn, pc, qn, qc, rfl, sp.next hb6, sq, hzp, hzq, ND.out⟩ limA limD).mono ?_; rintro e w7 ⟨v7, rfl, C7, hb7⟩
          obtain ⟨rb, ro, rn, rc, so, sn, sc, rfl⟩ := C7.shape
          have hr3 := ((((hr1.next hb3).next hb4).next hb5).next hb6).next hb7
          obtain ⟨d0, d1, d2, g0, g1, g2, _, _, _, _⟩ := ((((hr1.next hb3).next hb4).next hb5).next hb6).next hb7
          go_wp2_with fail
          refine bodyPost_ret (v := .tuple #[.agg #[.bool rb, .slice ro rn rc, .slice so sn sc], .bool true]) (by simp [results, Tryz.results115, go_sem, d0, d1, d2]) rfl ?_
          exact hr3.parse hp0.out hpo.out C7
  · rw [decide_eq_false hm]
    have hdd : (⟨#[49]⟩ : ByteArray).data.toList = D := (hDc.out hm).symm
    clear hm hDc
    have hdz := Lib.size_eq (⟨#[49]⟩ : ByteArray)
    rw [hdd] at hdz
    have hdt : ByteArray.size (⟨#[49]⟩ : ByteArray) ≤ 9223372036854775807 := by omega
    have hdb := fun W => decimal_any (⟨#[49]⟩ : ByteArray) hdt W
    have hnb := fun (n : Nat) h1 h2 W => numberD_any (⟨#[49]⟩ : ByteArray) n h1 h2 W
    have he0 : ByteArray.toList (⟨#[49]⟩ : ByteArray) = D := by rw [Lib.toList_data]; exact hdd
    rw [hdd] at hdb hnb
    have Hdb := hid hdb; have Hnb := hid hnb; have Hdz := hid hdz; have He0 := hid he0
    clear hdb hnb hdz hdd hDl he0
    cases h1 : okDec A with
    | false =>
      rw [h1] at hok Hda
      have hpo : Hid (parseOk l = false) := hid (by rw [hok.out]; rfl)
      have hp0 : Hid (parseQ l = 0) := hid (by rw [hpq.out, hpo.out]; rfl)
      clear h1
      go_wp2_with fail
      refine (Hda.out _).mono ?_; rintro e w3 ⟨rfl, hb3⟩
      have hr3 := hr1.next hb3
      obtain ⟨d0, d1, d2, g0, g1, g2, _, _, _, _⟩ := hr1.next hb3
      go_wp2_with fail
      refine bodyPost_ret (v := .tuple #[.agg #[.bool false, .slice none 0 0, .slice none 0 0], .bool false]) (by simp [results, Tryz.results115, go_sem, d0, d1, d2]) rfl ?_
      exact hr3.parse hp0.out hpo.out (ratC_zero _)
    | true =>
      have hfA := okDec_facts h1
      rw [h1] at hok Hda
      clear h1
      cases h2 : okDec D with
      | false =>
        rw [h2] at hok Hdb
        have hpo : Hid (parseOk l = false) := hid (by rw [hok.out]; rfl)
        have hp0 : Hid (parseQ l = 0) := hid (by rw [hpq.out, hpo.out]; rfl)
        clear h2 hfA
        go_wp2_with fail
        refine (Hda.out _).mono ?_; rintro e w3 ⟨rfl, hb3⟩
        go_wp2_with fail
        refine (Hdb.out _).mono ?_; rintro e w4 ⟨rfl, hb4⟩
        have hr3 := (hr1.next hb3).next hb4
        obtain ⟨d0, d1, d2, g0, g1, g2, _, _, _, _⟩ := (hr1.next hb3).next hb4
        go_wp2_with fail
        refine bodyPost_ret (v := .tuple #[.agg #[.bool false, .slice none 0 0, .slice none 0 0], .bool false]) (by simp [results, Tryz.results115, go_sem, d0, d1, d2]) rfl ?_
        exact hr3.parse hp0.out hpo.out (ratC_zero _)
      | true =>
        have hfD := okDec_facts h2
        rw [h2] at hok Hdb
        clear h2
        by_cases h3 : D = [48]
        · exfalso
          have := He0.out
          rw [h3] at this
          rw [Lib.toList_data] at this
          exact absurd this (by decide)
        · have hpo : Hid (parseOk l = true) := hid (by rw [hok.out, decide_eq_true h3]; rfl)
          have hp0 : Hid (parseQ l = mkRat (sgn neg (valDec A)) (valDec D)) := hid (by rw [hpq.out, hpo.out]; rfl)
          have e3 : (ByteArray.toList (⟨#[49]⟩ : ByteArray) == [48]) = false := by rw [He0.out]; simpa using h3
          obtain ⟨lA, vA, _⟩ := hfA
          obtain ⟨lD, vD, nD⟩ := hfD
          have nD := nD h3
          have limA : lim (valDec A) ≤ 17179869184 := Nat.le_trans (lim_le (lim_dec vA)) (by omega)
          have limD : lim (valDec D) ≤ 17179869184 := Nat.le_trans (lim_le (lim_dec vD)) (by omega)
          have hcA := Hna.out (valDec A) (by rw [Haz.out]; exact lA) vA
          have hcD := Hnb.out (valDec D) (by rw [Hdz.out]; exact lD) vD
          generalize valDec A = x at *
          generalize valDec D = y at *
          have HcA := hid hcA; have HcD := hid hcD
          have VA := hid vA; have VD := hid vD; have ND := hid nD
          clear hcA hcD h3 vA vD nD
          go_wp2_with fail
          refine (Hda.out _).mono ?_; rintro e w3 ⟨rfl, hb3⟩
          go_wp2_with fail
          refine (Hdb.out _).mono ?_; rintro e w4 ⟨rfl, hb4⟩
          go_wp2_with fail
          refine (HcA.out _).mono ?_; rintro e w5 ⟨po, pn, pc, rfl, sp, hzp, hb5⟩
          go_wp2_with fail
          refine (HcD.out _).mono ?_; rintro e w6 ⟨qo, qn, qc, rfl, sq, hzq, hb6⟩
          go_wp2_with fail
          refine (rat_any neg x y _ _ ⟨po, qo, pn, pc, qn, qc, rfl, sp.next hb6, sq, hzp, hzq, ND.out⟩ limA limD).mono ?_; rintro e w7 ⟨v7, rfl, C7, hb7⟩
          obtain ⟨rb, ro, rn, rc, so, sn, sc, rfl⟩ := C7.shape
          have hr3 := ((((hr1.next hb3).next hb4).next hb5).next hb6).next hb7
          obtain ⟨d0, d1, d2, g0, g1, g2, _, _, _, _⟩ := ((((hr1.next hb3).next hb4).next hb5).next hb6).next hb7
          go_wp2_with fail
          refine bodyPost_ret (v := .tuple #[.agg #[.bool rb, .slice ro rn rc, .slice so sn sc], .bool true]) (by simp [results, Tryz.results115, go_sem, d0, d1, d2]) rfl ?_
          exact hr3.parse hp0.out hpo.out C7

end Go.Proofs.YtgohfieleckmgaaGreatDoor
