/-
  The walk of SymbolsMergeKeepsNames. No condition but sizes.
-/
import Derived.Test.YteancfcmiiddiaaSymL
import Derived.Deep.RegionHeld3
namespace Go.Proofs.Yteancfcmiiddiaa
open Go.RowKit

set_option maxHeartbeats 1000000 in
theorem walkKeeps (w : World) (T : List ByteArray) (ao : Option Addr) (n cap : Nat) (h : Sl w ao n cap (T.map .string)) (hc : ao = none → cap = 0) (U : List ByteArray) (bo : Option Addr) (m cap' : Nat) (h' : Sl w bo m cap' (U.map .string)) (_hc' : bo = none → cap' = 0) :
    Calls Try.prog 4 #[.slice ao n cap, .slice bo m cap'] w fun e w' => e = .returned (.bool true) ∧ Below w.heap.size w w' := by
  have hl := hid h.lenMap
  have hl' := hid h'.lenMap
  go_enter Try.func4, Try.ntmps4
  go_wp2_with fail
  refine (Strings_any T _ _ _ _ h).mono ?_; rintro e w1 ⟨rfl, rfl⟩
  cases hT : fewStrings T with
  | false =>
    go_wp2_with fail
    refine (awake_any _).mono ?_; rintro e w1 ⟨rfl, hb⟩
    go_wp2_with fail
    go_ret
    exact ⟨rfl, hb⟩
  | true =>
    go_wp2_with fail
    refine (Strings_any U _ _ _ _ h').mono ?_; rintro e w1 ⟨rfl, rfl⟩
    cases hU : fewStrings U with
    | false =>
      go_wp2_with fail
      refine (awake_any _).mono ?_; rintro e w1 ⟨rfl, hb⟩
      go_wp2_with fail
      go_ret
      exact ⟨rfl, hb⟩
    | true =>
      have fT := hid (few_sizes hT)
      have fU := hid (few_sizes hU)
      go_wp2_with fail
      refine (rValid_any T _ _ _ _ h fT.out).mono ?_; rintro e w1 ⟨rfl, hb1⟩
      cases hv : valid T with
      | false =>
        go_wp2_with fail
        refine (awake_any _).mono ?_; rintro e w2 ⟨rfl, hb⟩
        go_wp2_with fail
        go_ret
        exact ⟨rfl, hb1.trans (hb.mono hb1.size)⟩
      | true =>
        go_wp2_with fail
        refine (rValid_any U _ _ _ _ (h'.next hb1) fU.out).mono ?_; rintro e w2 ⟨rfl, hb2⟩
        have hb2 : Below w.heap.size w w2 := hb1.trans (hb2.mono hb1.size)
        cases hv' : valid U with
        | false =>
          go_wp2_with fail
          refine (awake_any _).mono ?_; rintro e w3 ⟨rfl, hb⟩
          go_wp2_with fail
          go_ret
          exact ⟨rfl, hb2.trans (hb.mono hb2.size)⟩
        | true =>
          have hvT := hid hv; have hvU := hid hv'; clear hv hv'
          go_wp2_with fail
          refine (Merge_any T U _ _ _ _ _ _ _ (h.next hb2) (h'.next hb2)).mono ?_; rintro e w3 ⟨ao1, bo1, n1, m1, c1, d1, rfl, s1, s2, hb3⟩
          have hb3 : Below w.heap.size w w3 := hb2.trans (hb3.mono hb2.size)
          by_cases hE : mergeE T U = 0
          · obtain ⟨f1, f2, f3, f4, f5, f6, f7, f8, f9⟩ := merge_facts hvT.out hvU.out hE
            rw [hE]
            have l1 := s1.lenMap
            have l2 := s2.lenMap
            generalize mergeT T U = M at *
            generalize mergeTo T U = O at *
            obtain rfl : m1 = m := by rw [← l2, f1, hl'.out]
            have hn1 : n ≤ n1 := by rw [← l1, ← hl.out]; exact f2
            have f3 := hid f3; have f4 := hid f4; have f5 := hid f5; have f6 := hid f6; have f7 := hid f7; have l1 := hid l1; have l2 := hid l2
            rw [l1.out] at f8
            have f9 := hid f9
            have hnc : n ≤ c1 := by have := s1.le; omega
            have hmb := s2.bound
            have hdn : decide (n1 < n) = false := decide_eq_false (by omega)
            go_wp2_with fail
            refine (sameStr_any (M.take n) T _ _ _ _ _ _ _ (s1.takeMap hn1) (h.next hb3)).mono ?_; rintro e w4 ⟨rfl, hb4⟩
            rw [decide_eq_true (by rw [← hl.out]; exact f3.out)]
            have s1 := s1.next hb4
            have s2 := s2.next hb4
            have hb4 : Below w.heap.size w w4 := hb3.trans (hb4.mono hb3.size)
            go_wp2_with fail
            go_loopw [11] (fun i wr => ∃ k : Nat, k ≤ m1 ∧ i = .int .i64 k ∧ Below w4.heap.size w4 wr) (fun i _ => m1 - (intOf i).toNat)
            case atStart => exact ⟨0, by omega, rfl, Below.refl _ _⟩
            case round =>
              obtain ⟨k, hk, rfl, hbel⟩ := hrel
              have r1 := s1.next hbel
              have r2 := s2.next hbel
              have r3 := (h'.next hb4).next hbel
              by_cases hlt : k < m1
              · obtain ⟨x, hx', b, off, rfl, hcell⟩ := r3.get hlt
                obtain ⟨y, hy', b', off', rfl, hcell'⟩ := r2.get hlt
                obtain ⟨z, hz, hnm⟩ := f5.out k x hx'
                obtain rfl : z = y := Option.some.inj (hz.symm.trans hy')
                have hzb := f9.out z (List.mem_of_getElem? hy')
                have hnm := hid hnm
                clear hx' hy' hz
                go_wp2_with fail
                have r1d := r1.next (Below.refl _ wr).drew
                go_region_held3 (fun w' => w'.cell? ⟨b, off + k, none⟩ = some (.string x) ∧ w'.cell? ⟨b', off' + k, none⟩ = some (.int .i64 z)) (first | exact ⟨hcell, hcell'⟩ | (refine ⟨cell_later (w := wr.drew) ?_ hcell, cell_later (w := wr.drew) ?_ hcell'⟩ <;> assumption))
                  (first | (go_at_call 21; refine (Name_any M z _ _ _ _ r1d).mono ?_; rintro e w' ⟨rfl, hbx⟩))
                have hb5 : Below w4.heap.size w4 w' := (hbel.drew).trans (hbx.mono hbel.size)
                go_wp2_with fail
                go_roundw
                case rel => exact ⟨k + 1, by omega, by go_num, hb5⟩
                case measure => simp [intOf]; omega
              · have hb5 : Below w.heap.size w wr := hb4.trans (hbel.mono hb4.size)
                go_wp2_with fail
                refine (Merge_any M U _ _ _ _ _ _ _ r1 r3).mono ?_; rintro e w5 ⟨ao6, bo6, n6, m6, c6, d6, rfl, s6, s7, hb6⟩
                rw [f6.out] at s6
                rw [f7.out]
                have r1 := r1.next hb6
                have hb6 : Below w.heap.size w w5 := hb5.trans (hb6.mono hb5.size)
                go_wp2_with fail
                refine (awake_any _).mono ?_; rintro e w6 ⟨rfl, hb7⟩
                have r1 := r1.next hb7
                have s6 := s6.next hb7
                have hb7 : Below w.heap.size w w6 := hb6.trans (hb7.mono hb6.size)
                go_wp2_with fail
                refine (Valid_any M _ _ _ _ r1).mono ?_; rintro e w7 ⟨rfl, hb8⟩
                rw [f4.out]
                have r1 := r1.next hb8
                have s6 := s6.next hb8
                have hb8 : Below w.heap.size w w7 := hb7.trans (hb8.mono hb7.size)
                go_wp2_with fail
                refine (sameStr_any M M _ _ _ _ _ _ _ s6 r1).mono ?_; rintro e w8 ⟨rfl, hb9⟩
                rw [decide_eq_true (rfl : M = M)]
                go_wp2_with fail
                go_ret
                exact ⟨rfl, hb8.trans (hb9.mono hb8.size)⟩
          · have hE' : ¬ mergeE T U = 0 := hE
            have hM : mergeT T U = [] := by
              rw [mergeT, if_neg]
              simp only [mergeE, hvT.out, hvU.out, Bool.and_self, if_true] at hE
              simp only [mergeOk, Bool.and_eq_true, decide_eq_true_eq]
              intro hh
              exact hE (if_pos hh.2)
            rw [hM] at s1
            obtain rfl : n1 = 0 := by have := s1.len; simpa using this.symm
            generalize hE2 : mergeE T U = E at hE
            have hE2' := hid hE2; clear hE2 hE'
            go_wp2_with fail
            refine (rMerge_any T U _ _ _ _ _ _ _ (h.next hb3) (h'.next hb3) hc fT.out fU.out).mono ?_; rintro e w4 ⟨ao2, bo2, n2, m2, c2, d2, rfl, s3, s4, hb4⟩
            have hb4 : Below w.heap.size w w4 := hb3.trans (hb4.mono hb3.size)
            rw [hE2'.out]
            go_wp2_with fail
            refine (awake_any _).mono ?_; rintro e w5 ⟨rfl, hb5⟩
            go_wp2_with fail
            go_ret
            exact ⟨rfl, hb4.trans (hb5.mono hb4.size)⟩

end Go.Proofs.Yteancfcmiiddiaa
