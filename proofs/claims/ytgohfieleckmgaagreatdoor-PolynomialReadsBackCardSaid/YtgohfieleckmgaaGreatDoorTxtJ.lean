/-
  The contract of the reference's Parse. No condition but sizes.
-/
import Derived.Test.YtgohfieleckmgaaGreatDoorTxtI
import Derived.Deep.CutBlock
namespace Go.Proofs.YtgohfieleckmgaaGreatDoor
open Go.RowKit Go.Lib
set_option linter.unusedSimpArgs false
set_option linter.unusedVariables false

theorem cutSl_at {l : List UInt8} {i : Nat} (h1 : 47 ∉ l.take i) (h2 : l[i]? = some 47) : cutSl l = (l.take i, l.drop (i + 1)) := by
  obtain ⟨hi, he⟩ := List.getElem?_eq_some_iff.1 h2
  have hl : l = l.take i ++ 47 :: l.drop (i + 1) := by
    rw [← he, ← List.drop_eq_getElem_cons hi, List.take_append_drop]
  have hm : 47 ∈ l := by rw [hl]; simp
  have hp : ∀ x ∈ l.take i, (decide (x ≠ 47)) = true := fun x hx => decide_eq_true (fun e => h1 (e ▸ hx))
  unfold cutSl
  rw [if_pos hm]
  have e1 : l.takeWhile (· ≠ 47) = l.take i := by
    conv => lhs; rw [hl]
    rw [List.takeWhile_append_of_pos hp]; simp
  have e2 : l.dropWhile (· ≠ 47) = 47 :: l.drop (i + 1) := by
    conv => lhs; rw [hl]
    rw [List.dropWhile_append_of_pos hp]; simp
  rw [e1, e2]; rfl

theorem take_no {l : List UInt8} {i : Nat} (h1 : 47 ∉ l.take i) {c : UInt8} (h2 : l[i]? = some c) (hc : c ≠ 47) : 47 ∉ l.take (i + 1) := by
  rw [take_snoc h2]
  simp only [List.mem_append, List.mem_singleton, not_or]
  exact ⟨h1, fun e => hc e.symm⟩

theorem okDec_zero {l : List UInt8} (h : okDec l = true) : (l = [48] ∧ valDec l = 0) ∨ (l ≠ [48] ∧ valDec l ≠ 0) := by
  by_cases h0 : l = [48]
  · subst h0; exact .inl ⟨rfl, rfl⟩
  · exact .inr ⟨h0, (okDec_facts h).2.2 h0⟩

/-- What the search for the slash leaves. -/
def CutAt (W : World) (l : List UInt8) (v5 v6 : Value) (wx : World) : Prop :=
  ∃ a b : ByteArray, v5 = .string a ∧ v6 = .string b ∧ a.data.toList = (cutSl l).1 ∧ b.data.toList = (cutSl l).2 ∧ Below W.heap.size W wx

set_option maxHeartbeats 4000000 in
set_option maxRecDepth 100000 in
theorem rParse_any (s : ByteArray) (hs : s.size ≤ 9223372036854775000) (w : World) :
    Calls Tryz.prog 146 #[.string s] w (ParseOut w s.data.toList) := by
  have hr := Res.start (Below.refl w.heap.size w) false none 0 0 none 0 0 25
  have hsz := Lib.size_eq s
  by_cases h0 : s.size = 0
  · obtain ⟨l, hl⟩ : ∃ l, s.data.toList = l := ⟨_, rfl⟩
    have hl0 : l = [] := by rw [← hl]; exact List.eq_nil_of_length_eq_zero (by rw [← hsz]; exact h0)
    rw [hl]
    have HT : Hid (s.data.toList = noSign l) := hid (by rw [hl, hl0]; rfl)
    have Hneg : Hid (isNeg l = false) := hid (by rw [hl0]; rfl)
    have hTs : s.size ≤ 9223372036854775000 := hs
    have z1 : decide (0 < s.size) = false := decide_eq_false (by omega)
    have z2 : decide ((0 : Int) < (s.size : Int)) = false := decide_eq_false (by omega)
    clear h0 hsz hl hl0
    have hnl : (noSign l).length ≤ 9223372036854775000 := by
      rw [← HT.out, ← Lib.size_eq]; exact hTs
    have hcl := cutSl_len (noSign l)
    go_enter Tryz.func146, Tryz.ntmps146
    go_upto_block 0 with fail
    generalize w.alloc (.cells #[.bool false, .slice none 0 0, .slice none 0 0] 25) = W at *
    go_cut [5, 6] (fun v5 v6 wx => CutAt W (noSign l) v5 v6 wx)
    case first =>
      go_wp2_with fail
      go_loop [5, 6, 7] (fun v5 v6 iv => ∃ i : Nat, i ≤ s.size ∧ v5 = .string s ∧ v6 = .string ⟨#[49]⟩ ∧ iv = .int .i64 i ∧ Hid (47 ∉ (noSign l).take i)) (fun _ _ iv => s.size - (RowKit.intOf iv).toNat)
      case atStart => exact ⟨0, Nat.zero_le _, rfl, rfl, rfl, hid (by simp)⟩
      case round =>
        obtain ⟨i, hi, rfl, rfl, rfl, hno⟩ := hrel
        by_cases hlt : i < s.size
        · have hg : (noSign l)[i]? = some s[i] := by
            rw [← HT.out]
            exact List.getElem?_eq_getElem (by rw [← Lib.size_eq]; exact hlt)
          by_cases h47 : s[i] = 47
          · rw [h47] at hg
            have hcut := hid (cutSl_at hno.out hg)
            have hi1 : i + 1 ≤ s.size := hlt
            clear hg hno
            go_wp2_with fail
            go_quiet (fail)
            go_wp2_with fail
            go_meet
            refine ⟨_, _, rfl, rfl, ?_, ?_, below_drewNs _⟩
            · rw [Lib.extract_data, HT.out, hcut.out]; simp
            · rw [Lib.extract_data, HT.out, hcut.out, List.take_of_length_le (by rw [List.length_drop, Lib.size_eq, HT.out]; omega)]
          · have hno' := hid (take_no hno.out hg h47)
            have h47' : ((s[i].toNat : Int) == 47) = false := by
              have : s[i].toNat ≠ 47 := fun e => h47 (UInt8.toNat_inj.1 e)
              simp; omega
            clear hg h47
            go_wp2_with fail
            go_round
            case rel => exact ⟨i + 1, by omega, rfl, rfl, by go_num, hno'⟩
            case measure => simp [RowKit.intOf]; omega
        · obtain rfl : i = s.size := by omega
          have hall : 47 ∉ noSign l := by
            have := hno.out
            rwa [List.take_of_length_le (by rw [← HT.out, ← Lib.size_eq]; exact Nat.le_refl _)] at this
          have hcut : Hid (cutSl (noSign l) = (noSign l, [49])) := hid (by unfold cutSl; rw [if_neg hall])
          clear hall hno
          go_wp2_with fail
          go_meet
          exact ⟨s, ⟨#[49]⟩, rfl, rfl, by rw [hcut.out]; exact HT.out, by rw [hcut.out], Below.refl _ _⟩
    case rest =>
      obtain ⟨a, b, rfl, rfl, ha, hb, hbc⟩ := hcut
      have hr1 := hr.next hbc
      have hat : a.size ≤ 9223372036854775807 := by rw [Lib.size_eq, ha]; omega
      have hbt : b.size ≤ 9223372036854775807 := by rw [Lib.size_eq, hb]; omega
      obtain ⟨A, hA⟩ : ∃ A, (cutSl (noSign l)).1 = A := ⟨_, rfl⟩
      obtain ⟨D, hD⟩ : ∃ D, (cutSl (noSign l)).2 = D := ⟨_, rfl⟩
      have hok : Hid (parseOk l = (okDec A && okDec D && decide (D ≠ [48]))) := hid (by unfold parseOk; rw [hA, hD])
      have hpq : Hid (parseQ l = if parseOk l then mkRat (sgn false (valDec A)) (valDec D) else 0) := hid (by unfold parseQ; rw [hA, hD, Hneg.out])
      rw [hA] at ha
      rw [hD] at hb
      have hda := fun W' => read_any a hat W'
      have hdb := fun W' => read_any b hbt W'
      rw [ha] at hda
      rw [hb] at hdb
      have Hda := hid hda; have Hdb := hid hdb
      clear hA hD hda hdb ha hb hnl hcl
      go_wp2_with fail
      refine (Hda.out _).mono ?_; rintro e w3 ⟨po, pn, pc, rfl, sp, hzp, hb3⟩
      go_wp2_with fail
      refine (Hdb.out _).mono ?_; rintro e w4 ⟨qo, qn, qc, rfl, sq, hzq, hb4⟩
      have hr4 := (hr1.next hb3).next hb4
      cases h1 : okDec A with
      | false =>
        rw [h1] at hok
        have hpo : Hid (parseOk l = false) := hid (by rw [hok.out]; rfl)
        have hp0 : Hid (parseQ l = 0) := hid (by rw [hpq.out, hpo.out]; rfl)
        clear h1 sp sq
        obtain ⟨d0, d1, d2, g0, g1, g2, _, _, _, _⟩ := (hr1.next hb3).next hb4
        go_wp2_with fail
        refine bodyPost_ret (v := .tuple #[.agg #[.bool false, .slice none 0 0, .slice none 0 0], .bool false]) (by simp [results, Tryz.results146, go_sem, d0, d1, d2]) rfl ?_
        exact hr4.parse hp0.out hpo.out (ratC_zero _)
      | true =>
        have hfA := okDec_facts h1
        have sp := sp h1
        rw [h1] at hok
        clear h1
        cases h2 : okDec D with
        | false =>
          rw [h2] at hok
          have hpo : Hid (parseOk l = false) := hid (by rw [hok.out]; rfl)
          have hp0 : Hid (parseQ l = 0) := hid (by rw [hpq.out, hpo.out]; rfl)
          clear h2 hfA sp sq
          obtain ⟨d0, d1, d2, g0, g1, g2, _, _, _, _⟩ := (hr1.next hb3).next hb4
          go_wp2_with fail
          refine bodyPost_ret (v := .tuple #[.agg #[.bool false, .slice none 0 0, .slice none 0 0], .bool false]) (by simp [results, Tryz.results146, go_sem, d0, d1, d2]) rfl ?_
          exact hr4.parse hp0.out hpo.out (ratC_zero _)
        | true =>
          have hfD := okDec_facts h2
          have hzD := okDec_zero h2
          have sq := sq h2
          rw [h2] at hok
          clear h2
          have hqn := sq.lenU
          rcases hzD with ⟨h3, hz⟩ | ⟨h3, hz⟩
          · have hpo : Hid (parseOk l = false) := hid (by rw [hok.out, decide_eq_false (not_not_intro h3)]; rfl)
            have hp0 : Hid (parseQ l = 0) := hid (by rw [hpq.out, hpo.out]; rfl)
            rw [hz, dig_zero] at hqn
            obtain rfl : qn = 0 := by simpa using hqn.symm
            clear hfA hfD h3 hz hqn sp sq
            obtain ⟨d0, d1, d2, g0, g1, g2, _, _, _, _⟩ := (hr1.next hb3).next hb4
            go_wp2_with fail
            refine bodyPost_ret (v := .tuple #[.agg #[.bool false, .slice none 0 0, .slice none 0 0], .bool false]) (by simp [results, Tryz.results146, go_sem, d0, d1, d2]) rfl ?_
            exact hr4.parse hp0.out hpo.out (ratC_zero _)
          · have hpo : Hid (parseOk l = true) := hid (by rw [hok.out, decide_eq_true h3]; rfl)
            have hp0 : Hid (parseQ l = mkRat (sgn false (valDec A)) (valDec D)) := hid (by rw [hpq.out, hpo.out]; rfl)
            have hqn1 : 1 ≤ qn := by
              rw [← hqn]
              have : dig (valDec D) ≠ [] := fun h => hz (dig_nil.1 h)
              cases h : dig (valDec D) with
              | nil => exact absurd h this
              | cons _ _ => simp
            obtain ⟨lA, vA, _⟩ := hfA
            obtain ⟨lD, vD, _⟩ := hfD
            have hpn2 : pn ≤ 17179869184 := by
              have := sp.lenD (lim_dec vA)
              omega
            have hqn2 : qn ≤ 17179869184 := by
              have := sq.lenD (lim_dec vD)
              omega
            generalize valDec A = x at *
            generalize valDec D = y at *
            have Hz := hid hz
            clear h3 vA vD hqn hz
            go_wp2_with fail
            refine (rover_any false x y Hz.out _ _ _ _ _ _ _ (sp.next hb4) sq hzp hzq hpn2 hqn2).mono ?_; rintro e w7 ⟨v7, rfl, C7, hb7⟩
            obtain ⟨rb, ro, rn, rc, so, sn, sc, rfl⟩ := C7.shape
            have hr7 := hr4.next hb7
            obtain ⟨d0, d1, d2, g0, g1, g2, _, _, _, _⟩ := hr4.next hb7
            go_wp2_with fail
            refine bodyPost_ret (v := .tuple #[.agg #[.bool rb, .slice ro rn rc, .slice so sn sc], .bool true]) (by simp [results, Tryz.results146, go_sem, d0, d1, d2]) rfl ?_
            exact hr7.parse hp0.out hpo.out C7
  · have h1 : 0 < s.size := by omega
    by_cases h2 : s[0] = 45
    · obtain ⟨l, hl⟩ : ∃ l, s.data.toList = l := ⟨_, rfl⟩
      obtain ⟨t, ht⟩ : ∃ t, s.extract 1 s.size = t := ⟨_, rfl⟩
      have hh := byte_head h1 h2
      rw [hl] at hh ⊢
      have HT : Hid (t.data.toList = noSign l) := hid (by
        unfold noSign
        rw [if_pos hh, ← ht, Lib.extract_data, hl, List.drop_one, List.take_of_length_le (by rw [List.length_tail, Lib.size_eq, hl]; omega)])
      have Hneg : Hid (isNeg l = true) := hid (decide_eq_true hh)
      have hTs : t.size ≤ 9223372036854775000 := by
        have := HT.out
        have h5 := noSign_len l
        rw [Lib.size_eq, HT.out]
        rw [hl] at hsz
        omega
      clear h0 hsz hl hh
      have hnl : (noSign l).length ≤ 9223372036854775000 := by
        rw [← HT.out, ← Lib.size_eq]; exact hTs
      have hcl := cutSl_len (noSign l)
      go_enter Tryz.func146, Tryz.ntmps146
      go_upto_block 0 with fail
      generalize w.alloc (.cells #[.bool false, .slice none 0 0, .slice none 0 0] 25) = W at *
      go_cut [5, 6] (fun v5 v6 wx => CutAt W (noSign l) v5 v6 wx)
      case first =>
        go_wp2_with fail
        go_loop [5, 6, 7] (fun v5 v6 iv => ∃ i : Nat, i ≤ t.size ∧ v5 = .string t ∧ v6 = .string ⟨#[49]⟩ ∧ iv = .int .i64 i ∧ Hid (47 ∉ (noSign l).take i)) (fun _ _ iv => t.size - (RowKit.intOf iv).toNat)
        case atStart => exact ⟨0, Nat.zero_le _, rfl, rfl, rfl, hid (by simp)⟩
        case round =>
          obtain ⟨i, hi, rfl, rfl, rfl, hno⟩ := hrel
          by_cases hlt : i < t.size
          · have hg : (noSign l)[i]? = some t[i] := by
              rw [← HT.out]
              exact List.getElem?_eq_getElem (by rw [← Lib.size_eq]; exact hlt)
            by_cases h47 : t[i] = 47
            · rw [h47] at hg
              have hcut := hid (cutSl_at hno.out hg)
              have hi1 : i + 1 ≤ t.size := hlt
              clear hg hno
              go_wp2_with fail
              go_quiet (fail)
              go_wp2_with fail
              go_meet
              refine ⟨_, _, rfl, rfl, ?_, ?_, below_drewNs _⟩
              · rw [Lib.extract_data, HT.out, hcut.out]; simp
              · rw [Lib.extract_data, HT.out, hcut.out, List.take_of_length_le (by rw [List.length_drop, Lib.size_eq, HT.out]; omega)]
            · have hno' := hid (take_no hno.out hg h47)
              have h47' : ((t[i].toNat : Int) == 47) = false := by
                have : t[i].toNat ≠ 47 := fun e => h47 (UInt8.toNat_inj.1 e)
                simp; omega
              clear hg h47
              go_wp2_with fail
              go_round
              case rel => exact ⟨i + 1, by omega, rfl, rfl, by go_num, hno'⟩
              case measure => simp [RowKit.intOf]; omega
          · obtain rfl : i = t.size := by omega
            have hall : 47 ∉ noSign l := by
              have := hno.out
              rwa [List.take_of_length_le (by rw [← HT.out, ← Lib.size_eq]; exact Nat.le_refl _)] at this
            have hcut : Hid (cutSl (noSign l) = (noSign l, [49])) := hid (by unfold cutSl; rw [if_neg hall])
            clear hall hno
            go_wp2_with fail
            go_meet
            exact ⟨t, ⟨#[49]⟩, rfl, rfl, by rw [hcut.out]; exact HT.out, by rw [hcut.out], Below.refl _ _⟩
      case rest =>
        obtain ⟨a, b, rfl, rfl, ha, hb, hbc⟩ := hcut
        have hr1 := hr.next hbc
        have hat : a.size ≤ 9223372036854775807 := by rw [Lib.size_eq, ha]; omega
        have hbt : b.size ≤ 9223372036854775807 := by rw [Lib.size_eq, hb]; omega
        obtain ⟨A, hA⟩ : ∃ A, (cutSl (noSign l)).1 = A := ⟨_, rfl⟩
        obtain ⟨D, hD⟩ : ∃ D, (cutSl (noSign l)).2 = D := ⟨_, rfl⟩
        have hok : Hid (parseOk l = (okDec A && okDec D && decide (D ≠ [48]))) := hid (by unfold parseOk; rw [hA, hD])
        have hpq : Hid (parseQ l = if parseOk l then mkRat (sgn true (valDec A)) (valDec D) else 0) := hid (by unfold parseQ; rw [hA, hD, Hneg.out])
        rw [hA] at ha
        rw [hD] at hb
        have hda := fun W' => read_any a hat W'
        have hdb := fun W' => read_any b hbt W'
        rw [ha] at hda
        rw [hb] at hdb
        have Hda := hid hda; have Hdb := hid hdb
        clear hA hD hda hdb ha hb hnl hcl
        go_wp2_with fail
        refine (Hda.out _).mono ?_; rintro e w3 ⟨po, pn, pc, rfl, sp, hzp, hb3⟩
        go_wp2_with fail
        refine (Hdb.out _).mono ?_; rintro e w4 ⟨qo, qn, qc, rfl, sq, hzq, hb4⟩
        have hr4 := (hr1.next hb3).next hb4
        cases h1 : okDec A with
        | false =>
          rw [h1] at hok
          have hpo : Hid (parseOk l = false) := hid (by rw [hok.out]; rfl)
          have hp0 : Hid (parseQ l = 0) := hid (by rw [hpq.out, hpo.out]; rfl)
          clear h1 sp sq
          obtain ⟨d0, d1, d2, g0, g1, g2, _, _, _, _⟩ := (hr1.next hb3).next hb4
          go_wp2_with fail
          refine bodyPost_ret (v := .tuple #[.agg #[.bool false, .slice none 0 0, .slice none 0 0], .bool false]) (by simp [results, Tryz.results146, go_sem, d0, d1, d2]) rfl ?_
          exact hr4.parse hp0.out hpo.out (ratC_zero _)
        | true =>
          have hfA := okDec_facts h1
          have sp := sp h1
          rw [h1] at hok
          clear h1
          cases h2 : okDec D with
          | false =>
            rw [h2] at hok
            have hpo : Hid (parseOk l = false) := hid (by rw [hok.out]; rfl)
            have hp0 : Hid (parseQ l = 0) := hid (by rw [hpq.out, hpo.out]; rfl)
            clear h2 hfA sp sq
            obtain ⟨d0, d1, d2, g0, g1, g2, _, _, _, _⟩ := (hr1.next hb3).next hb4
            go_wp2_with fail
            refine bodyPost_ret (v := .tuple #[.agg #[.bool false, .slice none 0 0, .slice none 0 0], .bool false]) (by simp [results, Tryz.results146, go_sem, d0, d1, d2]) rfl ?_
            exact hr4.parse hp0.out hpo.out (ratC_zero _)
          | true =>
            have hfD := okDec_facts h2
            have hzD := okDec_zero h2
            have sq := sq h2
            rw [h2] at hok
            clear h2
            have hqn := sq.lenU
            rcases hzD with ⟨h3, hz⟩ | ⟨h3, hz⟩
            · have hpo : Hid (parseOk l = false) := hid (by rw [hok.out, decide_eq_false (not_not_intro h3)]; rfl)
              have hp0 : Hid (parseQ l = 0) := hid (by rw [hpq.out, hpo.out]; rfl)
              rw [hz, dig_zero] at hqn
              obtain rfl : qn = 0 := by simpa using hqn.symm
              clear hfA hfD h3 hz hqn sp sq
              obtain ⟨d0, d1, d2, g0, g1, g2, _, _, _, _⟩ := (hr1.next hb3).next hb4
              go_wp2_with fail
              refine bodyPost_ret (v := .tuple #[.agg #[.bool false, .slice none 0 0, .slice none 0 0], .bool false]) (by simp [results, Tryz.results146, go_sem, d0, d1, d2]) rfl ?_
              exact hr4.parse hp0.out hpo.out (ratC_zero _)
            · have hpo : Hid (parseOk l = true) := hid (by rw [hok.out, decide_eq_true h3]; rfl)
              have hp0 : Hid (parseQ l = mkRat (sgn true (valDec A)) (valDec D)) := hid (by rw [hpq.out, hpo.out]; rfl)
              have hqn1 : 1 ≤ qn := by
                rw [← hqn]
                have : dig (valDec D) ≠ [] := fun h => hz (dig_nil.1 h)
                cases h : dig (valDec D) with
                | nil => exact absurd h this
                | cons _ _ => simp
              obtain ⟨lA, vA, _⟩ := hfA
              obtain ⟨lD, vD, _⟩ := hfD
              have hpn2 : pn ≤ 17179869184 := by
                have := sp.lenD (lim_dec vA)
                omega
              have hqn2 : qn ≤ 17179869184 := by
                have := sq.lenD (lim_dec vD)
                omega
              generalize valDec A = x at *
              generalize valDec D = y at *
              have Hz := hid hz
              clear h3 vA vD hqn hz
              go_wp2_with fail
              refine (rover_any true x y Hz.out _ _ _ _ _ _ _ (sp.next hb4) sq hzp hzq hpn2 hqn2).mono ?_; rintro e w7 ⟨v7, rfl, C7, hb7⟩
              obtain ⟨rb, ro, rn, rc, so, sn, sc, rfl⟩ := C7.shape
              have hr7 := hr4.next hb7
              obtain ⟨d0, d1, d2, g0, g1, g2, _, _, _, _⟩ := hr4.next hb7
              go_wp2_with fail
              refine bodyPost_ret (v := .tuple #[.agg #[.bool rb, .slice ro rn rc, .slice so sn sc], .bool true]) (by simp [results, Tryz.results146, go_sem, d0, d1, d2]) rfl ?_
              exact hr7.parse hp0.out hpo.out C7
    · obtain ⟨l, hl⟩ : ∃ l, s.data.toList = l := ⟨_, rfl⟩
      have hh : ¬ l.head? = some 45 := fun e => h2 (head_byte h1 (by rw [hl]; exact e))
      have h2' : ((s[0].toNat : Int) == 45) = false := by
        have : s[0].toNat ≠ 45 := fun e => h2 (UInt8.toNat_inj.1 e)
        simp; omega
      rw [hl]
      have HT : Hid (s.data.toList = noSign l) := hid (by unfold noSign; rw [if_neg hh]; exact hl)
      have Hneg : Hid (isNeg l = false) := hid (decide_eq_false hh)
      have hTs : s.size ≤ 9223372036854775000 := hs
      clear h0 hsz hl hh h2
      have hnl : (noSign l).length ≤ 9223372036854775000 := by
        rw [← HT.out, ← Lib.size_eq]; exact hTs
      have hcl := cutSl_len (noSign l)
      go_enter Tryz.func146, Tryz.ntmps146
      go_upto_block 0 with fail
      generalize w.alloc (.cells #[.bool false, .slice none 0 0, .slice none 0 0] 25) = W at *
      go_cut [5, 6] (fun v5 v6 wx => CutAt W (noSign l) v5 v6 wx)
      case first =>
        go_wp2_with fail
        go_loop [5, 6, 7] (fun v5 v6 iv => ∃ i : Nat, i ≤ s.size ∧ v5 = .string s ∧ v6 = .string ⟨#[49]⟩ ∧ iv = .int .i64 i ∧ Hid (47 ∉ (noSign l).take i)) (fun _ _ iv => s.size - (RowKit.intOf iv).toNat)
        case atStart => exact ⟨0, Nat.zero_le _, rfl, rfl, rfl, hid (by simp)⟩
        case round =>
          obtain ⟨i, hi, rfl, rfl, rfl, hno⟩ := hrel
          by_cases hlt : i < s.size
          · have hg : (noSign l)[i]? = some s[i] := by
              rw [← HT.out]
              exact List.getElem?_eq_getElem (by rw [← Lib.size_eq]; exact hlt)
            by_cases h47 : s[i] = 47
            · rw [h47] at hg
              have hcut := hid (cutSl_at hno.out hg)
              have hi1 : i + 1 ≤ s.size := hlt
              clear hg hno
              go_wp2_with fail
              go_quiet (fail)
              go_wp2_with fail
              go_meet
              refine ⟨_, _, rfl, rfl, ?_, ?_, below_drewNs _⟩
              · rw [Lib.extract_data, HT.out, hcut.out]; simp
              · rw [Lib.extract_data, HT.out, hcut.out, List.take_of_length_le (by rw [List.length_drop, Lib.size_eq, HT.out]; omega)]
            · have hno' := hid (take_no hno.out hg h47)
              have h47' : ((s[i].toNat : Int) == 47) = false := by
                have : s[i].toNat ≠ 47 := fun e => h47 (UInt8.toNat_inj.1 e)
                simp; omega
              clear hg h47
              go_wp2_with fail
              go_round
              case rel => exact ⟨i + 1, by omega, rfl, rfl, by go_num, hno'⟩
              case measure => simp [RowKit.intOf]; omega
          · obtain rfl : i = s.size := by omega
            have hall : 47 ∉ noSign l := by
              have := hno.out
              rwa [List.take_of_length_le (by rw [← HT.out, ← Lib.size_eq]; exact Nat.le_refl _)] at this
            have hcut : Hid (cutSl (noSign l) = (noSign l, [49])) := hid (by unfold cutSl; rw [if_neg hall])
            clear hall hno
            go_wp2_with fail
            go_meet
            exact ⟨s, ⟨#[49]⟩, rfl, rfl, by rw [hcut.out]; exact HT.out, by rw [hcut.out], Below.refl _ _⟩
      case rest =>
        obtain ⟨a, b, rfl, rfl, ha, hb, hbc⟩ := hcut
        have hr1 := hr.next hbc
        have hat : a.size ≤ 9223372036854775807 := by rw [Lib.size_eq, ha]; omega
        have hbt : b.size ≤ 9223372036854775807 := by rw [Lib.size_eq, hb]; omega
        obtain ⟨A, hA⟩ : ∃ A, (cutSl (noSign l)).1 = A := ⟨_, rfl⟩
        obtain ⟨D, hD⟩ : ∃ D, (cutSl (noSign l)).2 = D := ⟨_, rfl⟩
        have hok : Hid (parseOk l = (okDec A && okDec D && decide (D ≠ [48]))) := hid (by unfold parseOk; rw [hA, hD])
        have hpq : Hid (parseQ l = if parseOk l then mkRat (sgn false (valDec A)) (valDec D) else 0) := hid (by unfold parseQ; rw [hA, hD, Hneg.out])
        rw [hA] at ha
        rw [hD] at hb
        have hda := fun W' => read_any a hat W'
        have hdb := fun W' => read_any b hbt W'
        rw [ha] at hda
        rw [hb] at hdb
        have Hda := hid hda; have Hdb := hid hdb
        clear hA hD hda hdb ha hb hnl hcl
        go_wp2_with fail
        refine (Hda.out _).mono ?_; rintro e w3 ⟨po, pn, pc, rfl, sp, hzp, hb3⟩
        go_wp2_with fail
        refine (Hdb.out _).mono ?_; rintro e w4 ⟨qo, qn, qc, rfl, sq, hzq, hb4⟩
        have hr4 := (hr1.next hb3).next hb4
        cases h1 : okDec A with
        | false =>
          rw [h1] at hok
          have hpo : Hid (parseOk l = false) := hid (by rw [hok.out]; rfl)
          have hp0 : Hid (parseQ l = 0) := hid (by rw [hpq.out, hpo.out]; rfl)
          clear h1 sp sq
          obtain ⟨d0, d1, d2, g0, g1, g2, _, _, _, _⟩ := (hr1.next hb3).next hb4
          go_wp2_with fail
          refine bodyPost_ret (v := .tuple #[.agg #[.bool false, .slice none 0 0, .slice none 0 0], .bool false]) (by simp [results, Tryz.results146, go_sem, d0, d1, d2]) rfl ?_
          exact hr4.parse hp0.out hpo.out (ratC_zero _)
        | true =>
          have hfA := okDec_facts h1
          have sp := sp h1
          rw [h1] at hok
          clear h1
          cases h2 : okDec D with
          | false =>
            rw [h2] at hok
            have hpo : Hid (parseOk l = false) := hid (by rw [hok.out]; rfl)
            have hp0 : Hid (parseQ l = 0) := hid (by rw [hpq.out, hpo.out]; rfl)
            clear h2 hfA sp sq
            obtain ⟨d0, d1, d2, g0, g1, g2, _, _, _, _⟩ := (hr1.next hb3).next hb4
            go_wp2_with fail
            refine bodyPost_ret (v := .tuple #[.agg #[.bool false, .slice none 0 0, .slice none 0 0], .bool false]) (by simp [results, Tryz.results146, go_sem, d0, d1, d2]) rfl ?_
            exact hr4.parse hp0.out hpo.out (ratC_zero _)
          | true =>
            have hfD := okDec_facts h2
            have hzD := okDec_zero h2
            have sq := sq h2
            rw [h2] at hok
            clear h2
            have hqn := sq.lenU
            rcases hzD with ⟨h3, hz⟩ | ⟨h3, hz⟩
            · have hpo : Hid (parseOk l = false) := hid (by rw [hok.out, decide_eq_false (not_not_intro h3)]; rfl)
              have hp0 : Hid (parseQ l = 0) := hid (by rw [hpq.out, hpo.out]; rfl)
              rw [hz, dig_zero] at hqn
              obtain rfl : qn = 0 := by simpa using hqn.symm
              clear hfA hfD h3 hz hqn sp sq
              obtain ⟨d0, d1, d2, g0, g1, g2, _, _, _, _⟩ := (hr1.next hb3).next hb4
              go_wp2_with fail
              refine bodyPost_ret (v := .tuple #[.agg #[.bool false, .slice none 0 0, .slice none 0 0], .bool false]) (by simp [results, Tryz.results146, go_sem, d0, d1, d2]) rfl ?_
              exact hr4.parse hp0.out hpo.out (ratC_zero _)
            · have hpo : Hid (parseOk l = true) := hid (by rw [hok.out, decide_eq_true h3]; rfl)
              have hp0 : Hid (parseQ l = mkRat (sgn false (valDec A)) (valDec D)) := hid (by rw [hpq.out, hpo.out]; rfl)
              have hqn1 : 1 ≤ qn := by
                rw [← hqn]
                have : dig (valDec D) ≠ [] := fun h => hz (dig_nil.1 h)
                cases h : dig (valDec D) with
                | nil => exact absurd h this
                | cons _ _ => simp
              obtain ⟨lA, vA, _⟩ := hfA
              obtain ⟨lD, vD, _⟩ := hfD
              have hpn2 : pn ≤ 17179869184 := by
                have := sp.lenD (lim_dec vA)
                omega
              have hqn2 : qn ≤ 17179869184 := by
                have := sq.lenD (lim_dec vD)
                omega
              generalize valDec A = x at *
              generalize valDec D = y at *
              have Hz := hid hz
              clear h3 vA vD hqn hz
              go_wp2_with fail
              refine (rover_any false x y Hz.out _ _ _ _ _ _ _ (sp.next hb4) sq hzp hzq hpn2 hqn2).mono ?_; rintro e w7 ⟨v7, rfl, C7, hb7⟩
              obtain ⟨rb, ro, rn, rc, so, sn, sc, rfl⟩ := C7.shape
              have hr7 := hr4.next hb7
              obtain ⟨d0, d1, d2, g0, g1, g2, _, _, _, _⟩ := hr4.next hb7
              go_wp2_with fail
              refine bodyPost_ret (v := .tuple #[.agg #[.bool rb, .slice ro rn rc, .slice so sn sc], .bool true]) (by simp [results, Tryz.results146, go_sem, d0, d1, d2]) rfl ?_
              exact hr7.parse hp0.out hpo.out C7

end Go.Proofs.YtgohfieleckmgaaGreatDoor
