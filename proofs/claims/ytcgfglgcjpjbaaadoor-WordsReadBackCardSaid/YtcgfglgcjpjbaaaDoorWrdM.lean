/-
  The walk of WordsReadBack. Condition: internal/bytealg.MaxLen holds a number.
-/
import Derived.Test.YtcgfglgcjpjbaaaDoorWrdL
namespace Go.Proofs.YtcgfglgcjpjbaaaDoor
open Go.RowKit
set_option linter.unusedSimpArgs false
set_option linter.unusedVariables false

theorem wide_snoc (m : Nat) {s : List UInt8} {k : Nat} {c : UInt8} (h : s[k]? = some c) : wide m (s.take (k + 1)) = wide m (s.take k) ++ (if c = 32 then 32 :: List.replicate m 32 else [c]) := by
  rw [take_snoc h, wide_append]; simp [wide]

theorem wordM_ok {T : List ByteArray} (hv : valid T = true) (l : List Int) : okW (wordM l T.length 20) T.length = true := by
  have h1 := valid_len1 hv
  have h2 := valid_len hv
  have h3 := wordM_len l T.length 20
  exact decide_eq_true ⟨by omega, by omega, by omega, wordM_mem (by omega)⟩

set_option maxHeartbeats 4000000 in
theorem walkReadBack (w : World) (hM : MaxL w) (T : List ByteArray) (ao : Option Addr) (n cap : Nat) (hT : Sl w ao n cap (T.map .string)) (_hz : ao = none → cap = 0)
    (l : List Int) (bo : Option Addr) (m cap' : Nat) (hL : Sl w bo m cap' (i64s l)) (_hl : (bo = none → cap' = 0) ∧ ∀ z ∈ l, -9223372036854775808 ≤ z ∧ z ≤ 9223372036854775807)
    (p : Int) (hp : (Lit.int .u8 p).wf = true) :
    Calls Tryd.prog 4 #[.slice ao n cap, .slice bo m cap', .int .u8 p] w fun e w' => e = .returned (.bool true) ∧ Below w.heap.size w w' := by
  have hn := hT.bound
  have hm := hL.bound
  have hnl := hid hT.lenMap
  cases h1 : fewStrings T with
  | false =>
    have H1 := hid h1; clear h1
    go_enter Tryd.func4, Tryd.ntmps4
    go_wp2_with fail
    refine (Strings_any T _ _ _ _ hT).mono ?_; rintro e w1 ⟨rfl, rfl⟩
    rw [H1.out]
    go_wp2_with fail
    refine (wawake_any _).mono ?_; rintro e w1 ⟨rfl, hb⟩
    go_wp2_with fail
    go_ret
    exact ⟨rfl, hb⟩
  | true =>
    have fT := hid (few_sizes h1)
    have H1 := hid h1; clear h1
    cases hv : valid T with
    | false =>
      have Hv := hid hv; clear hv
      go_enter Tryd.func4, Tryd.ntmps4
      go_wp2_with fail
      refine (Strings_any T _ _ _ _ hT).mono ?_; rintro e w1 ⟨rfl, rfl⟩
      rw [H1.out]
      go_wp2_with fail
      refine (rValidT_any T _ _ _ _ hT fT.out).mono ?_; rw [Hv.out]; rintro e w1 ⟨rfl, hb1⟩
      go_wp2_with fail
      refine (wawake_any _).mono ?_; rintro e w2 ⟨rfl, hb2⟩
      go_wp2_with fail
      go_ret
      exact ⟨rfl, below_chain hb1 hb2⟩
    | true =>
      have h1 := valid_len1 hv
      have h2 := valid_len hv
      have hok := wordM_ok hv l
      have hvl := wordM_len l T.length 20
      have e2 : fmtErr T (wordM l T.length 20) = 0 := by unfold fmtErr; rw [if_pos hv, if_pos hok]
      have e1 : fmtRes T (wordM l T.length 20) = fmtL T (wordM l T.length 20) := by unfold fmtRes; rw [if_pos e2]
      have hin := okW_in hok
      have hfl := fmtL_len hv hin
      have hprs := fun M s' h => prs_fmt hv hin (by omega) M s' h
      rw [hnl.out] at h1 h2 hok hvl e1 e2 hin hfl hprs
      have hwm := word_any l n (by omega) (by omega) 20 (by decide)
      generalize wordM l n 20 = v at *
      have Hv := hid hv
      have E1 := hid e1; have E2 := hid e2
      have Hprs := hid hprs
      have Hwm := hid hwm
      clear hv hok e1 e2 hin hprs hwm
      obtain ⟨hp0, hp1⟩ : 0 ≤ p ∧ p ≤ 255 := by simpa [Lit.wf, IntKind.min, IntKind.max, IntKind.bits, IntKind.signed] using hp
      obtain ⟨q, hq⟩ : ∃ q : Nat, Int.tmod p 4 = (q : Int) := ⟨(p % 4).toNat, by rw [Int.tmod_eq_emod_of_nonneg hp0]; omega⟩
      have hq4 : q < 4 := by rw [Int.tmod_eq_emod_of_nonneg hp0] at hq; omega
      have hw1 : IntKind.u8.wrap (q : Int) = (q : Int) := by rw [IntKind.wrap_u8]; omega
      go_enter Tryd.func4, Tryd.ntmps4
      go_wp2_with fail
      refine (Strings_any T _ _ _ _ hT).mono ?_; rintro e w1 ⟨rfl, rfl⟩
      rw [H1.out]
      go_wp2_with fail
      refine (rValidT_any T _ _ _ _ hT fT.out).mono ?_; rw [Hv.out]; rintro e w1 ⟨rfl, hb1⟩
      go_wp2_with fail
      refine (Hwm.out _ _ _ _ (hL.next hb1)).mono ?_; rintro e w2 ⟨vo, vn, vc, rfl, sV, _, hb2⟩
      have hbel2 := below_chain hb1 hb2
      have hvn := hid sV.lenI
      rw [hvn.out] at hvl hfl
      go_wp2_with fail
      refine (wFormat_any T _ _ _ v _ _ _ _ (hT.next hbel2) sV).mono ?_
      rw [E1.out, E2.out]
      rintro e w3 ⟨s, rfl, hs, hb3⟩
      have hbel3 := below_chain hbel2 hb3
      have sV := sV.next hb3
      have hsz : s.size ≤ 500 := by rw [Lib.size_eq, hs]; omega
      have hs := hid hs
      have hsl := hid (Lib.size_eq s)
      have hM3 := hM.next hbel3
      have hT3 := hT.next hbel3
      clear hT hL hM hfl
      go_wp2_with fail
      go_loopw [10, 11] (fun Wv iv wr => ∃ (k : Nat) (W : ByteArray), k ≤ s.size ∧ Wv = .string W ∧ iv = .int .i64 k ∧ W.size ≤ 4 * k ∧ Hid (W.data.toList = wide q (s.data.toList.take k)) ∧ wr = w3) (fun _ i _ => s.size - (intOf i).toNat)
      case atStart => exact ⟨0, ⟨#[]⟩, by omega, rfl, rfl, by decide, hid rfl, rfl⟩
      case round =>
        obtain ⟨k, W, hk, rfl, rfl, hWz, hW, rfl⟩ := hrel
        by_cases hlt : k < s.size
        · have hx : s.data.toList[k]? = some s[k] := by
            have : k < s.data.toList.length := by rw [← hsl.out]; exact hlt
            rw [List.getElem?_eq_getElem this]; rfl
          have hcd : (s.extract k (k + 1)).data.toList = [s[k]] := by
            rw [part_data, take_snoc hx, List.drop_append_of_le_length (by rw [List.length_take, ← hsl.out]; omega), List.drop_of_length_le (by rw [List.length_take]; omega)]; rfl
          have hcz : (s.extract k (k + 1)).size = 1 := by rw [Lib.size_eq, hcd]; rfl
          have hstep := wide_snoc q hx
          rw [← hW.out] at hstep
          have hcat : Hid ((W ++ s.extract k (k + 1)).data.toList = W.data.toList ++ [s[k]]) := hid (by rw [Go.Joins.data_append, hcd])
          have hcatz : (W ++ s.extract k (k + 1)).size = W.size + 1 := by rw [ByteArray.size_append, hcz]
          have h321 : (⟨#[32]⟩ : ByteArray).size = 1 := rfl
          have hWb : W.size ≤ 2000 := by omega
          clear hx
          by_cases h32 : s[k] = 32
          · have hb0 : ((s[k].toNat : Int) == 32) = true := by rw [h32]; rfl
            rw [if_pos h32] at hstep
            rw [h32] at hcat
            have Hstep := hid hstep
            clear hstep hcd h32
            go_wp2_with fail
            go_loopw [10, 12] (fun W2v jv wr2 => ∃ (j : Nat) (W2 : ByteArray), j ≤ q ∧ W2v = .string W2 ∧ jv = .int .i64 j ∧ W2.size ≤ 4 * k + 1 + j ∧ Hid (W2.data.toList = W.data.toList ++ (32 :: List.replicate j 32)) ∧ wr2 = wr) (fun _ j _ => q - (intOf j).toNat)
            case atStart => exact ⟨0, W ++ s.extract k (k + 1), by omega, rfl, rfl, by omega, hid hcat.out, rfl⟩
            case round =>
              obtain ⟨j, W2, hj, rfl, rfl, hWz2, hW2, rfl⟩ := hrel
              by_cases hjq : j < q
              · have hW2b : W2.size ≤ 3000 := by omega
                go_wp2_with fail
                go_roundw
                case rel => exact ⟨j + 1, W2 ++ ⟨#[32]⟩, by omega, rfl, by go_num, by rw [ByteArray.size_append, h321]; omega, hid (by rw [Go.Joins.data_append, hW2.out, List.replicate_succ']; simp), by trivial⟩
                case measure => simp [intOf]; omega
              · obtain rfl : j = q := by omega
                go_wp2_with fail
                go_roundw
                case rel => exact ⟨k + 1, W2, by omega, rfl, by go_num, by omega, hid (by rw [Hstep.out, hW2.out]), by trivial⟩
                case measure => simp [intOf]; omega
          · have hb0 : ((s[k].toNat : Int) == 32) = false := by
              have : s[k].toNat ≠ 32 := fun e => h32 (UInt8.toNat_inj.1 e)
              rw [beq_eq_false_iff_ne]; omega
            rw [if_neg h32, ← hcat.out] at hstep
            have Hstep := hid hstep
            clear hstep hcd h32 hcat
            by_cases hq0 : q = 0
            · subst hq0
              go_wp2_with fail
              go_loopw [10, 12] (fun W2v jv wr2 => W2v = .string (W ++ s.extract k (k + 1)) ∧ jv = .int .i64 0 ∧ wr2 = wr) (fun _ _ _ => 0)
              case atStart => exact ⟨rfl, rfl, rfl⟩
              case round =>
                obtain ⟨rfl, rfl, rfl⟩ := hrel
                go_wp2_with fail
                go_roundw
                case rel => exact ⟨k + 1, W ++ s.extract k (k + 1), by omega, rfl, by go_num, by omega, hid Hstep.out.symm, by trivial⟩
                case measure => simp [intOf]; omega
            · have hq1 : decide (0 < q) = true := decide_eq_true (by omega)
              have hq2 : decide ((0 : Int) < (q : Int)) = true := decide_eq_true (by omega)
              go_wp2_with fail
              go_loopw [10, 12] (fun W2v jv wr2 => W2v = .string (W ++ s.extract k (k + 1)) ∧ jv = .int .i64 0 ∧ wr2 = wr) (fun _ _ _ => 0)
              case atStart => exact ⟨rfl, rfl, rfl⟩
              case round =>
                obtain ⟨rfl, rfl, rfl⟩ := hrel
                go_wp2_with fail
                go_roundw
                case rel => exact ⟨k + 1, W ++ s.extract k (k + 1), by omega, rfl, by go_num, by omega, hid Hstep.out.symm, by trivial⟩
                case measure => simp [intOf]; omega
        · obtain rfl : k = s.size := by omega
          have hWd : W.data.toList = wide q (fmtL T v) := by
            rw [hW.out, ← hs.out, List.take_of_length_le (by rw [← hsl.out]; exact Nat.le_refl _)]
          have hz2 : (⟨#[32, 32]⟩ : ByteArray).size = 2 := rfl
          have hz1 : (⟨#[32]⟩ : ByteArray).size = 1 := rfl
          have hWb : W.size ≤ 2000 := by omega
          have hz3 : ((⟨#[32, 32]⟩ : ByteArray) ++ W).size = 2 + W.size := by rw [ByteArray.size_append, hz2]
          have hz4 : ((⟨#[32, 32]⟩ : ByteArray) ++ W ++ ⟨#[32]⟩).size ≤ 2003 := by rw [ByteArray.size_append, hz3, hz1]; omega
          obtain ⟨pe, pr⟩ := Hprs.out q ((⟨#[32, 32]⟩ : ByteArray) ++ W ++ ⟨#[32]⟩) (by rw [Go.Joins.data_append, Go.Joins.data_append, hWd]; rfl)
          have pe2 : parErr T ((⟨#[32, 32]⟩ : ByteArray) ++ W ++ ⟨#[32]⟩) = 0 := by unfold parErr; rw [if_pos Hv.out, pe]
          have pr2 : parRes T ((⟨#[32, 32]⟩ : ByteArray) ++ W ++ ⟨#[32]⟩) = v := by unfold parRes; rw [if_pos Hv.out, pr]
          have hpar := wParse_any T ao n cap ((⟨#[32, 32]⟩ : ByteArray) ++ W ++ ⟨#[32]⟩) (by omega) wr hT3 hM3
          rw [pe2, pr2] at hpar
          have Hpar := hid hpar
          clear pe pr pe2 pr2 hpar hWd
          go_wp2_with fail
          refine Hpar.out.mono ?_; rintro e w4 ⟨xo, xn, xc, rfl, sX, _, hb4⟩
          have hbel4 := below_chain hbel3 hb4
          have sV := sV.next hb4
          go_wp2_with fail
          refine (wawake_any _).mono ?_; rintro e w5 ⟨rfl, hb5⟩
          have hbel5 := below_chain hbel4 hb5
          go_wp2_with fail
          refine (rwSame_any v v _ _ _ _ _ _ _ (sX.next hb5) (sV.next hb5)).mono ?_; rintro e w6 ⟨rfl, q6, rfl⟩
          rw [show decide (v = v) = true from decide_eq_true rfl]
          go_wp2_with fail
          go_ret
          exact ⟨rfl, hbel5.trans (below_drewNs q6)⟩

end Go.Proofs.YtcgfglgcjpjbaaaDoor
