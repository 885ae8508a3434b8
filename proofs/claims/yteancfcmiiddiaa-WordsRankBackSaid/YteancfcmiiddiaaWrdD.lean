/-
  The contracts of the reference's successor and Next. Condition: the word is one.
-/
import Derived.Test.YteancfcmiiddiaaWrdC
namespace Go.Proofs.Yteancfcmiiddiaa
open Go.RowKit
set_option linter.unusedSimpArgs false
set_option linter.unusedVariables false

set_option maxHeartbeats 2000000 in
theorem successor_any (l : List Int) (s : Int) (hs1 : 1 ≤ s) (hs2 : s ≤ 32) (hl : ∀ x ∈ l, 1 ≤ x) (ao : Option Addr) (n cap : Nat) (hnl : n ≤ 1000000) (w : World) (h : Sl w ao n cap (i64s l)) (hza : ao = none → cap = 0) :
    Calls Try.prog 71 #[.slice ao n cap, .int .i64 s] w (IntsRes w (nextW l s)) := by
  have hb := h.bound
  have hn := hid h.lenI
  have Hmem := hid (fun (j : Nat) (x : Int) (hx : l[j]? = some x) => hl x (List.mem_of_getElem? hx))
  clear hl
  go_enter Try.func71, Try.ntmps71
  go_wp2_with (at_builtin; go_loud (refine wp_app rfl (.const (.slice none 0 0)) (.tmp 7) 25 rfl 3 _ 8 Try.underlying25 Try.infoI64 rfl w.heap.size _ 0 [] rfl (World.ownsRow_nil _ _ _ _) ao n cap (i64s l) rfl h hza (i64s_one l) (by omega) (by omega) (by simp) ?_))
  intro v w1 hown _ hb1
  obtain ⟨oo, oc, rfl, hsl, hz⟩ := ownsZ hown
  (try simp only [Nat.zero_add, List.nil_append] at hown); (try simp only [Nat.zero_add, List.nil_append] at hsl)
  have hle := hsl.le
  go_wp2_with fail
  go_loopw [6] (fun i wr => ∃ k : Nat, k ≤ n ∧ i = .int .i64 ((k : Int) - 1) ∧ wr.ownsRow w.heap.size 3 1 (.slice oo n oc) n (i64s (l.take k ++ List.replicate (n - k) 1)) ∧ Below w.heap.size w wr ∧ Hid (nextW l s = (succR s (l.take k).reverse).reverse ++ List.replicate (n - k) 1)) (fun i _ => (intOf i + 1).toNat)
  case atStart =>
    have ht : l.take n = l := List.take_of_length_le (by rw [hn.out]; omega)
    exact ⟨n, by omega, rfl, by rw [ht]; simpa using hown, hb1, hid (by rw [ht]; simp [nextW])⟩
  case round =>
    clear hown hb1 hsl
    obtain ⟨k, hk, rfl, hown, hbel, hval⟩ := hrel
    cases k with
    | zero =>
      have hres : nextW l s = List.replicate n 1 ++ [1] := by
        have := hval.out
        simp [succR] at this
        rw [this, ← List.replicate_succ', List.replicate_succ]
      simp only [List.take_zero, List.nil_append, Nat.sub_zero] at hown
      have Hres := hid hres
      clear hres
      have hlit : Sl (wr.alloc (.cells #[.int .i64 1] 3)) (some ⟨wr.heap.size, 0, none⟩) 1 1 (i64s [1]) := Sl.lit wr [.int .i64 1] 3 (by simp [maxLen])
      go_wp2_with (at_builtin; go_loud (refine wp_app rfl (.tmp 32) (.tmp 33) 25 rfl 3 _ 8 Try.underlying25 Try.infoI64 rfl w.heap.size _ n _ rfl (hown.alloc _) _ 1 1 _ rfl hlit (fun h => by cases h) (i64s_one _) (by omega) (by omega) (by have := hbel.size; simp only [World.size_alloc]; omega) ?_))
      intro v' w2 hown2 hg2 hb2
      have hbel2 : Below w.heap.size w w2 := (hbel.alloc hbel.size _).trans hb2
      go_wp2_with fail
      go_ret
      exact IntsRes.own (l := List.replicate n 1 ++ [1]) (by simpa [i64s] using hown2) Hres.out.symm hbel2
    | succ j =>
      have hj : ((j + 1 : Nat) : Int) - 1 = j := by omega
      rw [hj]
      clear hj
      obtain ⟨g, oc', x, hv, hg, hx', hcell, hfr, hset⟩ := rowI (j := j) hown (by omega)
      injection hv with e1 e2 e3
      subst e1 e3
      have hxl : l[j]? = some x := by
        rw [List.getElem?_append_left (by simp; have := hn.out; omega), List.getElem?_take, if_pos (by omega)] at hx'
        exact hx'
      simp only [set_at hxl] at hset
      have hx1 := Hmem.out j x hxl
      have Hset := hid hset
      have Hxl := hid hxl
      clear hset hx' hxl
      have hjn : j < n := by omega
      by_cases hlt : x < s
      · have hres : nextW l s = l.take j ++ (x + 1) :: List.replicate (n - (j + 1)) 1 := by
          rw [hval.out, succ_lt Hxl.out hlt]; simp
        have Hres := hid hres
        clear hres
        go_wp2_with fail
        go_ret
        exact IntsRes.own (Hset.out (x + 1)) Hres.out.symm (hbel.setCell hg _)
      · have hstep : Hid (nextW l s = (succR s (l.take j).reverse).reverse ++ List.replicate (n - j) 1) := hid (by
          rw [hval.out, succ_ge Hxl.out hlt, show n - j = (n - (j + 1)) + 1 by omega, List.replicate_succ]; simp)
        have h1 := Hset.out 1
        rw [show (1 : Int) :: List.replicate (n - (j + 1)) 1 = List.replicate (n - j) 1 by rw [show n - j = (n - (j + 1)) + 1 by omega, List.replicate_succ]] at h1
        have hb2 := hbel.setCell (p := ⟨g, j, none⟩) hg (.int .i64 1)
        go_wp2_with fail
        go_roundw
        case rel => exact ⟨j, by omega, rfl, h1, hb2, hstep⟩
        case measure => simp [intOf]

set_option maxHeartbeats 1000000 in
theorem rwNext_any (l : List Int) (s : Int) (ao : Option Addr) (n cap : Nat) (w : World) (h : Sl w ao n cap (i64s l)) (hza : ao = none → cap = 0) :
    Calls Try.prog 30 #[.slice ao n cap, .int .i64 s] w (IntsOut w (nextRes l s) (nextErr l s)) := by
  have hb := h.bound
  have hn := hid h.lenI
  cases hok : okW l s with
  | false =>
    have h1 : nextRes l s = [] := by unfold nextRes; rw [hok]; rfl
    have h2 : nextErr l s = 9 := by unfold nextErr; rw [hok]; rfl
    rw [h1, h2]
    have Hok := hid hok
    clear h1 h2 hok
    go_enter Try.func30, Try.ntmps30
    go_wp2_with fail
    refine (rwValid_any l s _ _ _ _ h).mono ?_; rintro e w1 ⟨rfl, rfl⟩
    rw [Hok.out]
    go_wp2_with fail
    go_ret2
    exact ⟨none, 0, 0, rfl, Sl.nil _, fun _ => rfl, Below.refl _ _⟩
  | true =>
    have h1 : nextRes l s = if 256 < (nextW l s).length then [] else nextW l s := by unfold nextRes; rw [hok]; rfl
    have h2 : nextErr l s = if 256 < (nextW l s).length then 2 else 0 := by unfold nextErr; rw [hok]; rfl
    have hnl := okW_len hok
    rw [hn.out] at hnl
    obtain ⟨hs1, hs2⟩ := okW_s hok
    have hmem : Hid (∀ x ∈ l, 1 ≤ x) := hid (fun x hx => ((of_decide_eq_true hok).2.2.2 x hx).1)
    generalize nextRes l s = R at *
    generalize nextErr l s = C at *
    have H1 := hid h1
    have H2 := hid h2
    have Hok := hid hok
    clear h1 h2 hok
    go_enter Try.func30, Try.ntmps30
    go_wp2_with fail
    refine (rwValid_any l s _ _ _ _ h).mono ?_; rintro e w1 ⟨rfl, rfl⟩
    rw [Hok.out]
    go_wp2_with fail
    refine (successor_any l s hs1 hs2 hmem.out _ _ _ (by omega) _ h hza).mono ?_; rintro e w1 ⟨oo, on, oc, rfl, hs, hz, hb1⟩
    have hol := hid hs.lenI
    by_cases hlen : 256 < on
    · obtain rfl : R = [] := by rw [H1.out, if_pos (by rw [hol.out]; exact hlen)]
      obtain rfl : C = 2 := by rw [H2.out, if_pos (by rw [hol.out]; exact hlen)]
      go_wp2_with fail
      go_ret2
      exact ⟨none, 0, 0, rfl, Sl.nil _, fun _ => rfl, hb1⟩
    · obtain rfl : R = nextW l s := by rw [H1.out, if_neg (by rw [hol.out]; exact hlen)]
      obtain rfl : C = 0 := by rw [H2.out, if_neg (by rw [hol.out]; exact hlen)]
      go_wp2_with fail
      go_ret2
      exact ⟨_, _, _, rfl, hs, hz, hb1⟩

end Go.Proofs.Yteancfcmiiddiaa
