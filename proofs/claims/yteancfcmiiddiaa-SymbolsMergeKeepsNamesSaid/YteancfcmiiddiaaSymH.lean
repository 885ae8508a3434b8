/-
  The contract of weightedref04.Merge. No condition but sizes.
-/
import Derived.Test.YteancfcmiiddiaaSymG
namespace Go.Proofs.Yteancfcmiiddiaa
open Go.RowKit

theorem findN_snoc {l : List ByteArray} {x : ByteArray} (h : findN l x = 0) : findN (l ++ [x]) x = l.length + 1 := by
  have hp : place l x = l.length := by
    have := place_le l x
    unfold findN at h
    split at h <;> omega
  have ha : l.all (fun y => !(y.toList == x.toList)) = true := by
    unfold place at hp
    rw [List.findIdx_eq_length] at hp
    rw [List.all_eq_true]
    intro y hy; rw [hp y hy]; rfl
  have : place (l ++ [x]) x = l.length := place_some (x := x) (by simp) (by simpa using ha) (by simp)
  unfold findN
  rw [this]; simp

set_option maxHeartbeats 1000000 in
theorem rMerge_any (T U : List ByteArray) (ao bo : Option Addr) (n m cap cap' : Nat) (w : World) (h : Sl w ao n cap (T.map .string)) (h' : Sl w bo m cap' (U.map .string))
    (hc : ao = none → cap = 0) (hsT : ∀ x ∈ T, x.size ≤ 140737488355328) (hsU : ∀ x ∈ U, x.size ≤ 140737488355328) :
    Calls Try.prog 17 #[.slice ao n cap, .slice bo m cap'] w fun e w' => MergeOut w w' T U e := by
  have hb := h.bound
  have hb' := h'.bound
  have hl := hid h.lenMap
  have hl' := hid h'.lenMap
  go_enter Try.func17, Try.ntmps17
  go_wp2_with fail
  refine (rValid_any T _ _ _ _ h hsT).mono ?_; rintro e w1 ⟨rfl, hb1⟩
  have s1 := h'.next hb1
  cases hv : valid T with
  | false =>
    go_wp2_with fail
    go_ret3
    have := MergeOut.no (w := w) (w' := w1) (T := T) (U := U) (by simp [mergeOk, hv]) hb1
    rw [show mergeE T U = 5 by simp [mergeE, hv]] at this
    exact this
  | true =>
    have hn32 : n ≤ 32 := by rw [← hl.out]; exact valid_len hv
    go_wp2_with fail
    refine (rValid_any U _ _ _ _ s1 hsU).mono ?_; rintro e w2 ⟨rfl, hb2⟩
    have hb2 : Below w.heap.size w w2 := hb1.trans (hb2.mono hb1.size)
    cases hv' : valid U with
    | false =>
      go_wp2_with fail
      go_ret3
      have := MergeOut.no (w := w) (w' := w2) (T := T) (U := U) (by simp [mergeOk, hv']) hb2
      rw [show mergeE T U = 5 by simp [mergeE, hv']] at this
      exact this
    | true =>
      have hm32 : m ≤ 32 := by rw [← hl'.out]; exact valid_len hv'
      have hvv : Hid (valid T = true ∧ valid U = true) := hid ⟨hv, hv'⟩
      clear hv hv'
      have hT2 := h.next hb2
      have hB2 := hb2.size
      go_wp2_with (at_builtin; go_loud (refine wp_app1 rfl (.const (.slice none 0 0)) (.tmp 18) 22 rfl 9 _ 16 Try.underlying22 Try.infoStr rfl w.heap.size _ 0 [] rfl (World.ownsRow_nil _ _ _ _) _ n cap _ rfl hT2 hc (one_strs T) (by omega) (by decide) (by simpa using hB2) ?_))
      intro tv w3 hown _ hb3
      have hown : w3.ownsRow w.heap.size 9 1 tv n (T.map .string) := by simpa using hown
      have hb3 : Below w.heap.size w w3 := hb2.trans hb3
      go_wp2_with fail
      go_loopw [7, 8, 9] (fun tv ov i wr => ∃ (k : Nat) (M1 : List ByteArray) (M2 : List Int) (n1 : Nat), k ≤ m ∧ i = .int .i64 k ∧ Hid (merged T (U.take k) = (M1, M2)) ∧ wr.ownsRow w.heap.size 9 1 tv n1 (M1.map .string) ∧ wr.ownsRow w.heap.size 3 1 ov k (M2.map (.int .i64)) ∧ n1 ≤ 32 + k ∧ Below w.heap.size w wr) (fun _ _ i _ => m - (intOf i).toNat)
      case atStart => exact ⟨0, T, [], n, by omega, rfl, by simp [Hid, merged], hown, World.ownsRow_nil _ _ _ _, by omega, hb3⟩
      case round =>
        clear hown
        obtain ⟨k, M1, M2, n1, hk, rfl, hM, hown1, hown2, hn1, hbel⟩ := hrel
        obtain ⟨tao, tcap, rfl, tsl⟩ := ownsSl hown1
        have hr := h'.next hbel
        have htl := hid tsl.lenMap
        by_cases hlt : k < m
        · obtain ⟨x, hx', b, off, rfl, hcell⟩ := hr.get hlt
          have hx := hid hx'; clear hx'
          have hlt' := World.block_lt_of_cell? wr _ hcell
          go_wp2_with fail
          refine (find_any M1 x _ _ _ _ tsl).mono ?_; rintro e w4 ⟨rfl, rfl⟩
          have hfl : findN M1 x ≤ n1 := by
            have h1 := place_le M1 x
            unfold findN; rw [htl.out] at h1 ⊢; split <;> omega
          by_cases hf : findN M1 x = 0
          · have hneg : (findN M1 x : Int) = 0 := by omega
            have hsn : Hid (findN (M1 ++ [x]) x = n1 + 1) := hid (by rw [findN_snoc hf, htl.out])
            have hst : Hid (merged T (U.take (k + 1)) = (M1 ++ [x], M2 ++ [(n1 : Int) + 1])) := hid (by rw [merged_succ hx.out, hM.out, mstep, if_pos hf, ← htl.out])
            clear hf
            have hlit : Sl (wr.alloc (.cells #[.string x] 9)) (some ⟨wr.heap.size, 0, none⟩) 1 1 ([x].map .string) := Sl.lit wr [.string x] _ (by simp [maxLen])
            go_wp2_with (at_builtin; go_loud (refine wp_app1 rfl (.tmp 33) (.tmp 38) 22 rfl 9 _ 16 Try.underlying22 Try.infoStr rfl w.heap.size _ n1 _ rfl (hown1.alloc _) _ 1 1 _ rfl hlit (fun h => by cases h) (one_strs [x]) (by omega) (by decide) (by have := hbel.size; simp; omega) ?_))
            intro tv' w5 hown1' hg5 hb5
            have hbel5 : Below w.heap.size w w5 := ((hbel.alloc hbel.size _).trans hb5)
            have hown1' : w5.ownsRow w.heap.size 9 1 tv' (n1 + 1) ((M1 ++ [x]).map .string) := by simpa using hown1'
            have hown2' : w5.ownsRow w.heap.size 3 1 u8 k (M2.map (.int .i64)) := (hown2.alloc _).kept hg5 (own_ne hown2 hown1 (by decide))
            obtain ⟨tao', tcap', rfl, tsl'⟩ := ownsSl hown1'
            obtain ⟨x', hx', b', off', eao, hcell5⟩ := (h'.next hbel5).get hlt
            obtain rfl : x' = x := Option.some.inj (hx'.symm.trans hx.out)
            clear hx'
            obtain ⟨rfl, rfl⟩ : b = b' ∧ off = off' := by simpa using eao
            clear eao
            go_wp2_with fail
            refine (find_any _ _ _ _ _ _ tsl').mono ?_; rintro e w4' ⟨rfl, rfl⟩
            rw [hsn.out]
            have hlit2 : Sl (w5.alloc (.cells #[.int .i64 ((n1 : Int) + 1)] 3)) (some ⟨w5.heap.size, 0, none⟩) 1 1 ([(n1 : Int) + 1].map (.int .i64)) := Sl.lit w5 [.int .i64 ((n1 : Int) + 1)] _ (by simp [maxLen])
            go_wp2_with (at_builtin; go_loud (refine wp_app1 rfl (.tmp 40) (.tmp 47) 25 rfl 3 _ 8 Try.underlying25 Try.infoInt rfl w.heap.size _ k _ rfl (hown2'.alloc _) _ 1 1 _ rfl hlit2 (fun h => by cases h) (one_ints .i64 [_]) (by omega) (by decide) (by have := hbel5.size; simp; omega) ?_))
            intro ov' w6 hown2'' hg6 hb6
            have hbel6 : Below w.heap.size w w6 := ((hbel5.alloc hbel5.size _).trans hb6)
            have hown1'' := (hown1'.alloc (.cells #[.int .i64 ((n1 : Int) + 1)] 3)).kept hg6 (own_ne hown1' hown2' (by decide))
            go_wp2_with fail
            go_roundw
            case rel => exact ⟨k + 1, M1 ++ [x'], M2 ++ [(n1 : Int) + 1], n1 + 1, by omega, by go_num, hst, hown1'', by simpa using hown2'', by omega, hbel6⟩
            case measure => simp [intOf]; omega
          · have hneg : 1 ≤ (findN M1 x : Int) := by omega
            have hst : Hid (merged T (U.take (k + 1)) = (M1, M2 ++ [(findN M1 x : Int)])) := hid (by rw [merged_succ hx.out, hM.out, mstep, if_neg hf])
            clear hf
            go_wp2_with fail
            refine (find_any _ _ _ _ _ _ tsl).mono ?_; rintro e w4' ⟨rfl, rfl⟩
            have hlit2 : Sl (wr.alloc (.cells #[.int .i64 (findN M1 x : Int)] 3)) (some ⟨wr.heap.size, 0, none⟩) 1 1 ([(findN M1 x : Int)].map (.int .i64)) := Sl.lit wr [.int .i64 (findN M1 x : Int)] _ (by simp [maxLen])
            go_wp2_with (at_builtin; go_loud (refine wp_app1 rfl (.tmp 40) (.tmp 47) 25 rfl 3 _ 8 Try.underlying25 Try.infoInt rfl w.heap.size _ k _ rfl (hown2.alloc _) _ 1 1 _ rfl hlit2 (fun h => by cases h) (one_ints .i64 [_]) (by omega) (by decide) (by have := hbel.size; simp; omega) ?_))
            intro ov' w6 hown2'' hg6 hb6
            have hbel6 : Below w.heap.size w w6 := ((hbel.alloc hbel.size _).trans hb6)
            have hown1'' := (hown1.alloc (.cells #[.int .i64 (findN M1 x : Int)] 3)).kept hg6 (own_ne hown1 hown2 (by decide))
            go_wp2_with fail
            go_roundw
            case rel => exact ⟨k + 1, M1, M2 ++ [(findN M1 x : Int)], n1, by omega, by go_num, hst, hown1'', by simpa using hown2'', by omega, hbel6⟩
            case measure => simp [intOf]; omega
        · obtain rfl : m = k := by omega
          have hMf : Hid (merged T U = (M1, M2)) := hid (by have := hM.out; rwa [List.take_of_length_le (by rw [hl'.out]; omega)] at this)
          by_cases h32 : n1 ≤ 32
          · go_wp2_with fail
            go_ret3
            have := MergeOut.yes (w := w) (w' := wr) (T := T) (U := U) (by simp [mergeOk, hvv.out.1, hvv.out.2, hMf.out, htl.out, h32]) hMf.out hown1 hown2 hbel
            rw [show mergeE T U = 0 by simp [mergeE, hvv.out.1, hvv.out.2, hMf.out, htl.out, h32]] at this
            exact this
          · go_wp2_with fail
            go_ret3
            have := MergeOut.no (w := w) (w' := wr) (T := T) (U := U) (by simp [mergeOk, hMf.out, htl.out, h32]) hbel
            rw [show mergeE T U = 2 by simp [mergeE, hvv.out.1, hvv.out.2, hMf.out, htl.out, h32]] at this
            exact this

end Go.Proofs.Yteancfcmiiddiaa
