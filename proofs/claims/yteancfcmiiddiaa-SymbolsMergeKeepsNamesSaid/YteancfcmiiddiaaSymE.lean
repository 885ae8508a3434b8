/-
  Contracts: slices.Clone over strings, weightedref04.Same, weightedlaw04.same, weightedmade.Strings. No condition but sizes.
-/
import Derived.Test.YteancfcmiiddiaaSymD
namespace Go.Proofs.Yteancfcmiiddiaa
open Go.RowKit

theorem Try.infoStr : (Try.prog.info? 9).map (fun i => (i.zero, i.size, i.bytes)) = some (some (.string ByteArray.empty), 1, 16) := by kernel_rfl
theorem Try.infoInt : (Try.prog.info? 3).map (fun i => (i.zero, i.size, i.bytes)) = some (some (.int .i64 0), 1, 8) := by kernel_rfl

set_option maxHeartbeats 400000 in
theorem cloneStr_any (T : List ByteArray) (ao : Option Addr) (n cap : Nat) (w : World) (h : Sl w ao n cap (T.map .string)) (hn : n ≤ 1000000000) :
    Calls Try.prog 64 #[.slice ao n cap] w fun e w' => ∃ v, e = .returned v ∧ w'.ownsRow w.heap.size 9 1 v n (T.map .string) ∧ Below w.heap.size w w' := by
  obtain ⟨i0, hi, hz0, hz1, hz2⟩ := info_parts Try.infoStr
  have hnil := fun w => Lib.run_eql_slice_nil (P := Try.prog) w 22 9 ao n cap 0 0 Try.underlying22
  cases ao with
  | none =>
    have hn0 : n = 0 := by
      cases hT : T with
      | nil => have := h.len; rw [hT] at this; exact this.symm
      | cons x T' => obtain ⟨_, _, he, _⟩ := h.at_ 0 (.string x) (by rw [hT]; rfl); cases he
    subst hn0
    have hT : T = [] := by have := h.len; simpa using this
    subst hT
    go_enter Try.func64, Try.ntmps64
    go_wp2_with fail
    go_ret
    exact ⟨_, rfl, World.ownsRow_nil _ _ _ _, Below.refl _ _⟩
  | some ad =>
    go_enter Try.func64, Try.ntmps64
    go_wp2_with (at_builtin; refine wp_app1 rfl (.tmp 5) (.tmp 6) 22 rfl 9 _ 16 Try.underlying22 Try.infoStr rfl w.heap.size _ 0 [] rfl (World.ownsRow_lit w #[] 0 (Nat.le_refl _) (by decide) rfl) (some ad) n cap (T.map .string) rfl (h.next (below_alloc _)) (fun h => by cases h) (one_strs T) (by omega) (by decide) (by simp) ?_)
    intro v' w' hown _ hb
    go_wp2_with fail
    go_ret
    exact ⟨_, rfl, hown, (below_alloc _).trans hb⟩

theorem beq_strs {x y : ByteArray} : (x.toList == y.toList) = decide (x = y) := by
  rw [ByteArray.toList_eq, ByteArray.toList_eq, Bool.eq_iff_iff]
  simp only [beq_iff_eq, decide_eq_true_eq]
  constructor
  · intro h
    cases x; cases y
    congr
    exact Array.toList_inj.1 h
  · rintro rfl; rfl

set_option maxHeartbeats 400000 in
theorem sameStr_any (S T : List ByteArray) (ao bo : Option Addr) (n m cap cap' : Nat) (w : World) (h : Sl w ao n cap (S.map .string)) (h' : Sl w bo m cap' (T.map .string)) :
    Calls Try.prog 18 #[.slice ao n cap, .slice bo m cap'] w fun e w' => e = .returned (.bool (decide (S = T))) ∧ Below w.heap.size w w' := by
  have hb := h.bound
  have hb' := h'.bound
  have hl := hid h.lenMap
  have hl' := hid h'.lenMap
  by_cases hnm : n = m
  · subst hnm
    go_enter Try.func18, Try.ntmps18
    go_wp2_with fail
    go_loopw [5] (fun i wr => ∃ k : Nat, k ≤ n ∧ i = .int .i64 k ∧ Hid (S.take k = T.take k) ∧ Below w.heap.size w wr) (fun i _ => n - (intOf i).toNat)
    case atStart => exact ⟨0, by omega, rfl, by simp [Hid], Below.refl _ _⟩
    case round =>
      obtain ⟨k, hk, rfl, hok, hbel⟩ := hrel
      have hr := h.next hbel
      have hr' := h'.next hbel
      by_cases hlt : k < n
      · obtain ⟨x, hx', b, off, rfl, hcell⟩ := hr.get hlt
        obtain ⟨y, hy', b', off', rfl, hcell'⟩ := hr'.get hlt
        have hx := hid hx'; have hy := hid hy'; clear hx' hy'
        cases hxy : x.toList == y.toList with
        | true =>
          go_wp2_with fail
          go_quiet (fail)
          go_wp2_with fail
          go_roundw
          case rel =>
            refine ⟨k + 1, by omega, by go_num, ?_, below_drewN hbel _⟩
            have hxy' : x = y := of_decide_eq_true (beq_strs ▸ hxy)
            show S.take (k + 1) = T.take (k + 1)
            rw [take_snoc hx.out, take_snoc hy.out, hok.out, hxy']
          case measure => simp [intOf]; omega
        | false =>
          go_wp2_with fail
          go_quiet (fail)
          go_wp2_with fail
          go_ret
          refine ⟨retB ?_, below_drewN hbel _⟩
          have hxy' : x ≠ y := of_decide_eq_false (beq_strs ▸ hxy)
          symm
          rw [decide_eq_false_iff_not]
          rintro rfl
          have := hx.out.symm.trans hy.out
          exact hxy' (Option.some.inj this)
      · go_wp2_with fail
        go_ret
        refine ⟨retB ?_, hbel⟩
        have := hok.out
        rw [List.take_of_length_le (by rw [hl.out]; omega), List.take_of_length_le (by rw [hl'.out]; omega)] at this
        simp [this]
  · go_enter Try.func18, Try.ntmps18
    go_wp2_with fail
    go_ret
    refine ⟨retB ?_, Below.refl _ _⟩
    symm
    rw [decide_eq_false_iff_not]
    rintro rfl
    exact hnm (hl.out.symm.trans hl'.out)

end Go.Proofs.Yteancfcmiiddiaa
