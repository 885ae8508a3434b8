/-
  The contract of the reference's Format of words. No condition but sizes.
-/
import Derived.Test.YtcgfglgcjpjbaaaDoorWrdH
import Derived.Lib.SmallJoins
namespace Go.Proofs.YtcgfglgcjpjbaaaDoor
open Go.RowKit
set_option linter.unusedSimpArgs false
set_option linter.unusedVariables false

set_option maxHeartbeats 2000000 in
theorem rwFormat_any (T : List ByteArray) (hT : ∀ x ∈ T, x.size ≤ 140737488355328) (ao : Option Addr) (n cap : Nat) (l : List Int) (bo : Option Addr) (m cap' : Nat) (w : World) (h : Sl w ao n cap (T.map .string)) (hL : Sl w bo m cap' (i64s l)) :
    Calls Tryd.prog 8 #[.slice ao n cap, .slice bo m cap'] w (TextOut w (fmtRes T l) (fmtErr T l)) := by
  have hb := h.bound
  have hn := hid h.lenMap
  have hm := hid hL.lenI
  have HT := hid hT
  clear hT
  cases hv : valid T with
  | false =>
    have h2 : fmtErr T l = 5 := by unfold fmtErr; rw [hv]; rfl
    have h1 : fmtRes T l = [] := by unfold fmtRes; rw [h2]; rfl
    rw [h1, h2]
    have Hv := hid hv
    clear h1 h2 hv
    go_enter Tryd.func8, Tryd.ntmps8
    go_wp2_with fail
    refine (rValidT_any T _ _ _ _ h HT.out).mono ?_; rw [Hv.out]; rintro e w1 ⟨rfl, hb1⟩
    go_wp2_with fail
    go_ret2
    exact ⟨_, rfl, rfl, hb1⟩
  | true =>
    cases hok : okW l (n : Int) with
    | false =>
      have h2 : fmtErr T l = 9 := by unfold fmtErr; rw [hv, hn.out, hok]; rfl
      have h1 : fmtRes T l = [] := by unfold fmtRes; rw [h2]; rfl
      rw [h1, h2]
      have Hv := hid hv
      have Hok := hid hok
      clear h1 h2 hv hok
      go_enter Tryd.func8, Tryd.ntmps8
      go_wp2_with fail
      refine (rValidT_any T _ _ _ _ h HT.out).mono ?_; rw [Hv.out]; rintro e w1 ⟨rfl, hb1⟩
      go_wp2_with fail
      refine (rwValid_any l n _ _ _ _ (hL.next hb1)).mono ?_; rw [Hok.out]; rintro e w2 ⟨rfl, rfl⟩
      go_wp2_with fail
      go_ret2
      exact ⟨_, rfl, rfl, hb1⟩
    | true =>
      have h2 : fmtErr T l = 0 := by unfold fmtErr; rw [hv, hn.out, hok]; rfl
      have h1 : fmtRes T l = fmtL T l := by unfold fmtRes; rw [h2]; rfl
      rw [h1, h2]
      have hin := okW_in hok
      have hml := okW_len hok
      rw [hm.out] at hml
      have hn32 := valid_len hv
      rw [hn.out] at hn32
      have Hv := hid hv
      have Hok := hid hok
      have Hin := hid hin
      have Hfl : Hid (∀ k, k ≤ m → (fmtL T (l.take k)).length ≤ 25 * k) := hid (fun k hk => by
        have := fmtL_len hv (l := l.take k) (fun x hx => by rw [hn.out]; exact hin x (List.mem_of_mem_take hx))
        rw [List.length_take, hm.out, Nat.min_eq_left hk] at this
        exact this)
      clear h1 h2 hv hok hin
      go_enter Tryd.func8, Tryd.ntmps8
      go_wp2_with fail
      refine (rValidT_any T _ _ _ _ h HT.out).mono ?_; rw [Hv.out]; rintro e w1 ⟨rfl, hb1⟩
      go_wp2_with fail
      refine (rwValid_any l n _ _ _ _ (hL.next hb1)).mono ?_; rw [Hok.out]; rintro e w2 ⟨rfl, rfl⟩
      go_wp2_with fail
      go_loopw [6, 7] (fun sv i wr => ∃ (k : Nat) (s : ByteArray), k ≤ m ∧ sv = .string s ∧ i = .int .i64 k ∧ Hid (s.data.toList = fmtL T (l.take k)) ∧ wr = w1) (fun _ i _ => m - (intOf i).toNat)
      case atStart => exact ⟨0, ⟨#[]⟩, by omega, rfl, rfl, hid rfl, rfl⟩
      case round =>
        obtain ⟨k, s, hk, rfl, rfl, hs, rfl⟩ := hrel
        have hss : s.size ≤ 10000 := by
          have := Hfl.out k hk
          rw [← hs.out, ← Lib.size_eq] at this
          omega
        by_cases hlt : k < m
        · obtain ⟨x, hx', bb, off, rfl, hcell⟩ := (hL.next hb1).i64 hlt
          obtain ⟨hx1, hx2⟩ := Hin.out x (List.mem_of_getElem? hx')
          obtain ⟨j, rfl, hjn, hTj⟩ := name_at Hv.out hx1 (by rw [hn.out]; exact hx2)
          rw [hn.out] at hjn
          obtain ⟨y, hy, bt, offt, rfl, hcellT⟩ := (h.next hb1).get hjn
          rw [hTj] at hy
          injection hy with hy
          have hyz : y.size ≤ 24 := by rw [← hy]; exact (named_facts (valid_named Hv.out _ (nameS_word Hv.out hx1 (by rw [hn.out]; exact hx2)))).2.1
          have hst : Hid ((k = 0 → y.data.toList = fmtL T (l.take (k + 1))) ∧ (k ≠ 0 → s.data.toList ++ 32 :: y.data.toList = fmtL T (l.take (k + 1)))) := hid ⟨fun h0 => by
              subst h0
              rw [take_snoc hx', List.take_zero, List.nil_append, fmtL_one, hy], fun h0 => by
              rw [take_snoc hx', fmtL_snoc _ _ _ (fun e => by have := congrArg List.length e; rw [List.length_take, hm.out] at this; simp at this; omega), hs.out, hy]⟩
          clear hx' hTj hy
          cases k with
          | zero =>
            have hs0 : s.data.toList = [] := hs.out
            simp only [Nat.add_zero] at hcell
            go_wp2_with fail
            go_roundw
            case rel => exact ⟨1, s ++ y, by omega, rfl, rfl, hid (by rw [Go.Joins.data_append, hs0, List.nil_append]; exact hst.out.1 rfl), by trivial⟩
            case measure => simp [intOf]; omega
          | succ k =>
            have h1 : (⟨#[32]⟩ : ByteArray).size = 1 := rfl
            have h2 : (s ++ ⟨#[32]⟩).size = s.size + 1 := by rw [ByteArray.size_append]; rfl
            go_wp2_with fail
            go_roundw
            case rel => exact ⟨k + 2, s ++ ⟨#[32]⟩ ++ y, by omega, rfl, by go_num, hid (by rw [Go.Joins.data_append, Go.Joins.data_append, List.append_assoc]; exact hst.out.2 (by omega)), by trivial⟩
            case measure => simp [intOf]; omega
        · obtain rfl : k = m := by omega
          rw [List.take_of_length_le (by rw [hm.out]; omega)] at hs
          go_wp2_with fail
          go_ret2
          exact ⟨_, rfl, hs.out, hb1⟩

end Go.Proofs.YtcgfglgcjpjbaaaDoor
