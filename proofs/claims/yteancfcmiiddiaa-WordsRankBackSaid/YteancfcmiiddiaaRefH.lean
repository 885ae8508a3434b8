/-
  The contracts of the reference's Valid, den and Take. No condition but sizes.
-/
import Derived.Test.YteancfcmiiddiaaRefG
import Derived.Test.YteancfcmiiddiaaRatI
import Derived.Test.YteancfcmiiddiaaBlk
namespace Go.Proofs.Yteancfcmiiddiaa
open Go.RowKit
set_option linter.unusedSimpArgs false
set_option linter.unusedVariables false

theorem proper_last {l : List Nat} {k y : Nat} (hl : l.length = k + 1) (hy : l[k]? = some y) : proper l = decide (y ≠ 0) := by
  unfold proper
  rw [decide_eq_decide, proper_iff]
  have hne : l ≠ [] := by rintro rfl; simp at hl
  have : l.getLastD 1 = y := by
    rw [List.getLastD_eq_getLast?, List.getLast?_eq_getElem?, show l.length - 1 = k by omega, hy]; rfl
  rw [this]
  simp [hne]

set_option maxHeartbeats 2000000 in
theorem rValid_any (neg : Bool) (N D : List Nat) (hN : Lim N) (hD : Lim D) (ao bo : Option Addr) (n m cap cap' : Nat) (w : World) (h : Sl w ao n cap (u32s N)) (h' : Sl w bo m cap' (u32s D)) (hza : ao = none → cap = 0) (hzb : bo = none → cap' = 0) (hn : n ≤ 17179869184) (hm : m ≤ 17179869184) :
    Calls Try.prog 137 #[.agg #[.bool neg, .slice ao n cap, .slice bo m cap']] w fun e w' => e = .returned (.bool (ratOk neg N D)) ∧ Below w.heap.size w w' := by
  have hnl := h.lenU
  have hml := h'.lenU
  obtain ⟨ok, hok⟩ : ∃ b, ratOk neg N D = b := ⟨_, rfl⟩
  rw [hok]
  have hr : ok = (proper N && proper D && (if N = [] then !neg && decide (D = []) else if D = [] then true else decide (val D ≠ 1) && decide (Nat.gcd (val N) (val D) = 1))) := hok.symm
  clear hok
  have hb0 := below_alloc (w := w) (.cells #[.bool neg, .slice ao n cap, .slice bo m cap'] 54)
  -- what stands when the denominator's list is without a zero at the end
  have oneD := fun (hp : proper D = true) => (by
    have e := proper_dig hD hp
    have s := h'.next hb0
    rw [e] at s
    exact isOne_any (val D) bo m cap' _ s : Calls Try.prog 144 #[.slice bo m cap'] (w.alloc (.cells #[.bool neg, .slice ao n cap, .slice bo m cap'] 54)) fun e w' => e = .returned (.bool (decide (val D = 1))) ∧ (w.alloc (.cells #[.bool neg, .slice ao n cap, .slice bo m cap'] 54)) = w')
  have OneD := hid oneD
  clear oneD
  -- the test of the numerator's end
  by_cases hA : proper N = true
  · have tN : n = 0 ∨ ∃ k y b off : Nat, n = k + 1 ∧ ao = some ⟨b, off, none⟩ ∧ (w.alloc (.cells #[.bool neg, .slice ao n cap, .slice bo m cap'] 54)).cell? ⟨b, off + k, none⟩ = some (.int .u32 (y : Int)) ∧ y ≠ 0 := by
      cases n with
      | zero => exact .inl rfl
      | succ k =>
        obtain ⟨y, hy, b, off, hao, hcell⟩ := (h.next hb0).u32 (show k < k + 1 by omega)
        refine .inr ⟨k, y, b, off, rfl, hao, hcell, ?_⟩
        rw [proper_last hnl hy] at hA
        exact of_decide_eq_true hA
    by_cases hB : proper D = true
    · have tD : m = 0 ∨ ∃ k y b off : Nat, m = k + 1 ∧ bo = some ⟨b, off, none⟩ ∧ (w.alloc (.cells #[.bool neg, .slice ao n cap, .slice bo m cap'] 54)).cell? ⟨b, off + k, none⟩ = some (.int .u32 (y : Int)) ∧ y ≠ 0 := by
        cases m with
        | zero => exact .inl rfl
        | succ k =>
          obtain ⟨y, hy, b, off, hao, hcell⟩ := (h'.next hb0).u32 (show k < k + 1 by omega)
          refine .inr ⟨k, y, b, off, rfl, hao, hcell, ?_⟩
          rw [proper_last hml hy] at hB
          exact of_decide_eq_true hB
      rw [hA, hB] at hr
      simp only [Bool.true_and] at hr
      have eN := proper_dig hN hA
      have eD := proper_dig hD hB
      have oneD := OneD.out hB
      have hN0 : N = [] ↔ n = 0 := by rw [← hnl]; exact List.length_eq_zero_iff.symm
      have hD0 : D = [] ↔ m = 0 := by rw [← hml]; exact List.length_eq_zero_iff.symm
      have sN := h.next hb0
      have sD := h'.next hb0
      rw [eN] at sN
      rw [eD] at sD
      have hgl : Hid (lim (Nat.gcd (val N) (val D)) ≤ 17179869184 ∨ val N = 0) := hid (by
        by_cases h0 : val N = 0
        · exact .inr h0
        · left
          refine Nat.le_trans (lim_mono (Nat.gcd_le_left _ (Nat.pos_of_ne_zero h0))) ?_
          have := congrArg List.length eN
          unfold lim; omega)
      clear OneD
      have OneD := hid oneD
      clear oneD hA hB eN eD hN hD hnl hml h h'
      by_cases hd1 : val D = 1
      · have hdd : decide (val D = 1) = true := decide_eq_true hd1
        have hD1 : D ≠ [] := by rintro rfl; cases hd1
        have hres : Hid (ok = false) := hid (by rw [hr]; simp [hd1, hD1])
        rw [hdd] at OneD
        clear hr hN0 hD0 hd1 hdd hD1 hgl sN sD
        rcases tN with rfl | ⟨k, y, b, off, rfl, rfl, hcell, hy0⟩
        · rcases tD with rfl | ⟨k', y', b', off', rfl, rfl, hcell', hy0'⟩
          · go_enter Try.func137, Try.ntmps137
            go_wp2_with fail
            refine (OneD.out).mono ?_; rintro e w1 ⟨rfl, rfl⟩
            go_wp2_with fail
            go_ret
            exact ⟨retB hres.out.symm, hb0⟩
          · have hyb' : ((y' : Int) == 0) = false := by simp; omega
            go_enter Try.func137, Try.ntmps137
            go_wp2_with fail
            refine (OneD.out).mono ?_; rintro e w1 ⟨rfl, rfl⟩
            go_wp2_with fail
            go_ret
            exact ⟨retB hres.out.symm, hb0⟩
        · have hyb : ((y : Int) == 0) = false := by simp; omega
          rcases tD with rfl | ⟨k', y', b', off', rfl, rfl, hcell', hy0'⟩
          · go_enter Try.func137, Try.ntmps137
            go_wp2_with fail
            refine (OneD.out).mono ?_; rintro e w1 ⟨rfl, rfl⟩
            go_wp2_with fail
            go_ret
            exact ⟨retB hres.out.symm, hb0⟩
          · have hyb' : ((y' : Int) == 0) = false := by simp; omega
            go_enter Try.func137, Try.ntmps137
            go_wp2_with fail
            refine (OneD.out).mono ?_; rintro e w1 ⟨rfl, rfl⟩
            go_wp2_with fail
            go_ret
            exact ⟨retB hres.out.symm, hb0⟩
      · have hdd : decide (val D = 1) = false := decide_eq_false hd1
        rw [hdd] at OneD
        have hr : ok = (if n = 0 then !neg && decide (m = 0) else if m = 0 then true else decide (Nat.gcd (val N) (val D) = 1)) := by
          rw [hr]
          simp only [hN0, hD0, decide_eq_true hd1, ne_eq, hd1, not_false_eq_true, decide_true, Bool.true_and]
        clear hd1 hdd hN0 hD0
        generalize val N = a at *
        generalize val D = b at *
        rcases tN with rfl | ⟨k, y, b1, off, rfl, rfl, hcell, hy0⟩
        · rw [if_pos rfl] at hr
          have hr := hid hr
          clear hgl
          cases neg with
          | true =>
            rcases tD with rfl | ⟨k', y', b', off', rfl, rfl, hcell', hy0'⟩
            · go_enter Try.func137, Try.ntmps137
              go_wp2_with fail
              refine (OneD.out).mono ?_; rintro e w1 ⟨rfl, rfl⟩
              go_wp2_with fail
              go_ret
              exact ⟨retB (by rw [hr.out]; rfl), hb0⟩
            · have hyb' : ((y' : Int) == 0) = false := by simp; omega
              go_enter Try.func137, Try.ntmps137
              go_wp2_with fail
              refine (OneD.out).mono ?_; rintro e w1 ⟨rfl, rfl⟩
              go_wp2_with fail
              go_ret
              exact ⟨retB (by rw [hr.out]; rfl), hb0⟩
          | false =>
            rcases tD with rfl | ⟨k', y', b', off', rfl, rfl, hcell', hy0'⟩
            · go_enter Try.func137, Try.ntmps137
              go_wp2_with fail
              refine (OneD.out).mono ?_; rintro e w1 ⟨rfl, rfl⟩
              go_wp2_with fail
              go_ret
              exact ⟨retB (by rw [hr.out]; rfl), hb0⟩
            · have hyb' : ((y' : Int) == 0) = false := by simp; omega
              go_enter Try.func137, Try.ntmps137
              go_wp2_with fail
              refine (OneD.out).mono ?_; rintro e w1 ⟨rfl, rfl⟩
              go_wp2_with fail
              go_ret
              exact ⟨retB (by rw [hr.out]; simp; try omega), hb0⟩
        · rw [if_neg (by omega)] at hr
          have hyb : ((y : Int) == 0) = false := by simp; omega
          rcases tD with rfl | ⟨k', y', b', off', rfl, rfl, hcell', hy0'⟩
          · rw [if_pos rfl] at hr
            have hr := hid hr
            go_enter Try.func137, Try.ntmps137
            go_wp2_with fail
            refine (OneD.out).mono ?_; rintro e w1 ⟨rfl, rfl⟩
            go_wp2_with fail
            go_ret
            exact ⟨retB hr.out.symm, hb0⟩
          · rw [if_neg (by omega)] at hr
            have hr := hid hr
            have hyb' : ((y' : Int) == 0) = false := by simp; omega
            go_enter Try.func137, Try.ntmps137
            go_wp2_with fail
            refine (OneD.out).mono ?_; rintro e w1 ⟨rfl, rfl⟩
            go_wp2_with fail
            refine (divisor_any a b _ _ _ _ _ _ _ sN sD hza hzb hn hm).mono ?_; rintro e w3 ⟨go, gn, gc, rfl, sg, hzg, hb3⟩
            go_wp2_with fail
            refine (isOne_any _ _ _ _ _ sg).mono ?_; rintro e w7 ⟨rfl, rfl⟩
            go_wp2_with fail
            go_ret
            exact ⟨retB hr.out.symm, below_chain hb0 hb3⟩
    · have hB' : proper D = false := by simpa using hB
      have hres : Hid (ok = false) := hid (by rw [hr, hB']; simp)
      obtain ⟨k', b', off', rfl, rfl, hcell'⟩ : ∃ k b off : Nat, m = k + 1 ∧ bo = some ⟨b, off, none⟩ ∧ (w.alloc (.cells #[.bool neg, .slice ao n cap, .slice bo m cap'] 54)).cell? ⟨b, off + k, none⟩ = some (.int .u32 0) := by
        cases m with
        | zero =>
          obtain rfl : D = [] := List.eq_nil_of_length_eq_zero hml
          exact absurd rfl hB
        | succ k =>
          obtain ⟨y, hy, b, off, hao, hcell⟩ := (h'.next hb0).u32 (show k < k + 1 by omega)
          rw [proper_last hml hy] at hB
          obtain rfl : y = 0 := by simpa using hB
          exact ⟨k, b, off, rfl, hao, hcell⟩
      clear hr hB hB' OneD hnl hml hA hN hD h h'
      rcases tN with rfl | ⟨k, y, b, off, rfl, rfl, hcell, hy0⟩
      · go_enter Try.func137, Try.ntmps137
        go_wp2_with fail
        go_ret
        exact ⟨retB hres.out.symm, hb0⟩
      · have hyb : ((y : Int) == 0) = false := by simp; omega
        go_enter Try.func137, Try.ntmps137
        go_wp2_with fail
        go_ret
        exact ⟨retB hres.out.symm, hb0⟩
  · have hA' : proper N = false := by simpa using hA
    have hres : Hid (ok = false) := hid (by rw [hr, hA']; rfl)
    obtain ⟨k, b, off, rfl, rfl, hcell⟩ : ∃ k b off : Nat, n = k + 1 ∧ ao = some ⟨b, off, none⟩ ∧ (w.alloc (.cells #[.bool neg, .slice ao n cap, .slice bo m cap'] 54)).cell? ⟨b, off + k, none⟩ = some (.int .u32 0) := by
      cases n with
      | zero =>
        obtain rfl : N = [] := List.eq_nil_of_length_eq_zero hnl
        exact absurd rfl hA
      | succ k =>
        obtain ⟨y, hy, b, off, hao, hcell⟩ := (h.next hb0).u32 (show k < k + 1 by omega)
        rw [proper_last hnl hy] at hA
        obtain rfl : y = 0 := by simpa using hA
        exact ⟨k, b, off, rfl, hao, hcell⟩
    clear hr hA hA' OneD hnl hml hN hD h h'
    go_enter Try.func137, Try.ntmps137
    go_wp2_with fail
    go_ret
    exact ⟨retB hres.out.symm, hb0⟩

end Go.Proofs.Yteancfcmiiddiaa
