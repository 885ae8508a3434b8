/-
  Contracts: weightedlaw04.same, weightedmade.Strings, symbols.Merge. No condition but sizes.
-/
import Derived.Test.YteancfcmiiddiaaSymE
namespace Go.Proofs.Yteancfcmiiddiaa
open Go.RowKit

set_option maxHeartbeats 400000 in
theorem sameInt_any (S T : List Int) (ao bo : Option Addr) (n m cap cap' : Nat) (w : World) (h : Sl w ao n cap (S.map (.int .i64))) (h' : Sl w bo m cap' (T.map (.int .i64))) :
    Calls Try.prog 19 #[.slice ao n cap, .slice bo m cap'] w fun e w' => e = .returned (.bool (decide (S = T))) ∧ Below w.heap.size w w' := by
  have hb := h.bound
  have hb' := h'.bound
  have hl := hid h.lenMap
  have hl' := hid h'.lenMap
  by_cases hnm : n = m
  · subst hnm
    go_enter Try.func19, Try.ntmps19
    go_wp2_with fail
    go_loopw [5] (fun i wr => ∃ k : Nat, k ≤ n ∧ i = .int .i64 k ∧ Hid (S.take k = T.take k) ∧ Below w.heap.size w wr) (fun i _ => n - (intOf i).toNat)
    case atStart => exact ⟨0, by omega, rfl, by simp [Hid], Below.refl _ _⟩
    case round =>
      obtain ⟨k, hk, rfl, hok, hbel⟩ := hrel
      have hr := h.next hbel
      have hr' := h'.next hbel
      by_cases hlt : k < n
      · obtain ⟨x, hx', b, off, rfl, hcell⟩ := hr.get hlt
        obtain ⟨y, hy', b', off', rfl, hcell'⟩ := hr'.get hlt
        have hx := hid hx'; have hy := hid hy'; clear hx' hy'
        by_cases hxy : x = y
        · subst hxy
          go_wp2_with fail
          go_quiet (fail)
          go_wp2_with fail
          go_roundw
          case rel =>
            refine ⟨k + 1, by omega, by go_num, ?_, below_drewN hbel _⟩
            show S.take (k + 1) = T.take (k + 1)
            rw [take_snoc hx.out, take_snoc hy.out, hok.out]
          case measure => simp [intOf]; omega
        · go_wp2_with fail
          go_quiet (fail)
          go_wp2_with fail
          go_ret
          refine ⟨retB ?_, below_drewN hbel _⟩
          symm
          rw [decide_eq_false_iff_not]
          rintro rfl
          have := hx.out.symm.trans hy.out
          exact hxy (Option.some.inj this)
      · go_wp2_with fail
        go_ret
        refine ⟨retB ?_, hbel⟩
        have := hok.out
        rw [List.take_of_length_le (by rw [hl.out]; omega), List.take_of_length_le (by rw [hl'.out]; omega)] at this
        simp [this]
  · go_enter Try.func19, Try.ntmps19
    go_wp2_with fail
    go_ret
    refine ⟨retB ?_, Below.refl _ _⟩
    symm
    rw [decide_eq_false_iff_not]
    rintro rfl
    exact hnm (hl.out.symm.trans hl'.out)

/-- At most 40 strings of at most 40 bytes. -/
def fewStrings (T : List ByteArray) : Bool := decide (T.length ≤ 40) && T.all (fun s => decide (s.size ≤ 40))

theorem Strings_any (T : List ByteArray) (ao : Option Addr) (n cap : Nat) (w : World) (h : Sl w ao n cap (T.map .string)) :
    Calls Try.prog 14 #[.slice ao n cap] w fun e w' => e = .returned (.bool (fewStrings T)) ∧ w = w' := by
  have hb := h.bound
  have hl := hid h.lenMap
  by_cases h1 : n ≤ 40
  · have hfin : Hid (fewStrings T = T.all (fun s => decide (s.size ≤ 40))) := hid (by unfold fewStrings; rw [hl.out]; simp [h1])
    go_enter Try.func14, Try.ntmps14
    go_wp2_with fail
    go_loop [3] (fun i => ∃ k : Nat, k ≤ n ∧ i = .int .i64 k ∧ Hid ((T.take k).all (fun s => decide (s.size ≤ 40)) = true)) (fun i => n - (intOf i).toNat)
    case atStart => exact ⟨0, by omega, rfl, by simp [Hid]⟩
    case round =>
      obtain ⟨k, hk, rfl, hall⟩ := hrel
      by_cases hlt : k < n
      · obtain ⟨x, hx', b, off, rfl, hcell⟩ := h.get hlt
        have hx := hid hx'; clear hx'
        by_cases hi : x.size ≤ 40
        · go_wp2_with fail
          go_round
          case rel => exact ⟨k + 1, by omega, by go_num, all_take_snoc hx.out hall.out (by simp [hi])⟩
          case measure => simp [intOf]; omega
        · go_wp2_with fail
          go_ret
          exact ⟨retB (by rw [hfin.out, any_of_get hx.out (by simp [hi])]), rfl⟩
      · go_wp2_with fail
        go_ret
        refine ⟨retB ?_, rfl⟩
        have := hall.out
        rw [List.take_of_length_le (by rw [hl.out]; omega)] at this
        rw [hfin.out, this]
  · go_enter Try.func14, Try.ntmps14
    go_wp2_with fail
    go_ret
    exact ⟨retB (by simp [fewStrings, hl.out, h1]), rfl⟩

/-- One name more. -/
def mstep (p : List ByteArray × List Int) (s : ByteArray) : List ByteArray × List Int :=
  if findN p.1 s = 0 then (p.1 ++ [s], p.2 ++ [(p.1.length : Int) + 1]) else (p.1, p.2 ++ [(findN p.1 s : Int)])
def merged (T U : List ByteArray) : List ByteArray × List Int := U.foldl mstep (T, [])

theorem merged_succ {T U : List ByteArray} {k : Nat} {x : ByteArray} (h : U[k]? = some x) : merged T (U.take (k + 1)) = mstep (merged T (U.take k)) x := by
  unfold merged; rw [take_snoc h, List.foldl_append]; rfl

def mergeOk (T U : List ByteArray) : Bool := valid T && valid U && decide ((merged T U).1.length ≤ 32)
def mergeT (T U : List ByteArray) : List ByteArray := if mergeOk T U then (merged T U).1 else []
def mergeTo (T U : List ByteArray) : List Int := if mergeOk T U then (merged T U).2 else []
def mergeE (T U : List ByteArray) : Int := if valid T && valid U then (if (merged T U).1.length ≤ 32 then 0 else 2) else 5

/-- What Merge returns. -/
def MergeOut (w w' : World) (T U : List ByteArray) (e : Ending) : Prop :=
  ∃ ao bo n m c d, e = .returned (.tuple #[.slice ao n c, .slice bo m d, .int .i64 (mergeE T U)]) ∧ Sl w' ao n c ((mergeT T U).map .string) ∧ Sl w' bo m d ((mergeTo T U).map (.int .i64)) ∧ Below w.heap.size w w'

theorem MergeOut.no {w w' : World} {T U : List ByteArray} (h : mergeOk T U = false) (hb : Below w.heap.size w w') : MergeOut w w' T U (.returned (.tuple #[.slice none 0 0, .slice none 0 0, .int .i64 (mergeE T U)])) :=
  ⟨none, none, 0, 0, 0, 0, rfl, by rw [mergeT, if_neg (by simp [h])]; exact Sl.nil _, by rw [mergeTo, if_neg (by simp [h])]; exact Sl.nil _, hb⟩

theorem MergeOut.yes {w w' : World} {T U : List ByteArray} (h : mergeOk T U = true) {v1 v2 : Value} {n1 n2 : Nat} {M1 : List ByteArray} {M2 : List Int} (hM : merged T U = (M1, M2)) {B1 B2 : Nat}
    (h1 : w'.ownsRow B1 9 1 v1 n1 (M1.map .string)) (h2 : w'.ownsRow B2 3 1 v2 n2 (M2.map (.int .i64))) (hb : Below w.heap.size w w') : MergeOut w w' T U (.returned (.tuple #[v1, v2, .int .i64 (mergeE T U)])) := by
  obtain ⟨ao, c, rfl, s1⟩ := ownsSl h1
  obtain ⟨bo, d, rfl, s2⟩ := ownsSl h2
  exact ⟨ao, bo, _, _, c, d, rfl, by rw [mergeT, if_pos h, hM]; exact s1, by rw [mergeTo, if_pos h, hM]; exact s2, hb⟩

theorem retT3 {a b : Value} {x y : Int} (h : x = y) : Ending.returned (.tuple #[a, b, .int .i64 x]) = .returned (.tuple #[a, b, .int .i64 y]) := by rw [h]

end Go.Proofs.Yteancfcmiiddiaa
