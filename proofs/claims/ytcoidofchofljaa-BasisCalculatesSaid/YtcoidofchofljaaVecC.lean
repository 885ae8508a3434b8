/-
  The contracts of made.At, made.Number, and of the statements' vector. No condition but sizes.
-/
import Derived.Test.YtcoidofchofljaaVecB
import Derived.Test.YtcoidofchofljaaMod
namespace Go.Proofs.Ytcoidofchofljaa
open Go.RowKit
set_option linter.unusedSimpArgs false
set_option linter.unusedVariables false

/-- A made number. -/
def numQ (x : Int) : Rat := makeRat (x % 13 - 6) (1 + Int.tdiv x 13 % 3)

set_option maxHeartbeats 1000000 in
theorem number_any (x : Int) (h1 : -9223372036854775808 ≤ x) (h2 : x ≤ 9223372036854775807) (w : World) :
    Calls Try.prog 16 #[.int .i64 x] w (RatOut w (numQ x)) := by
  have hr := Res.start (Below.refl w.heap.size w) false none 0 0 none 0 0 39
  obtain ⟨a, ha⟩ : ∃ a, x % 13 = a := ⟨_, rfl⟩
  have ha1 : 0 ≤ a := by omega
  have ha2 : a < 13 := by omega
  obtain ⟨d, hd⟩ : ∃ d, Int.tdiv x 13 = d := ⟨_, rfl⟩
  have hd1 : -9223372036854775808 ≤ d ∧ d ≤ 9223372036854775807 := by
    rw [← hd]
    have := Int.tdiv_eq_ediv (a := x) (b := 13)
    have h13 : (13 : Int).sign = 1 := rfl
    by_cases hx : 0 ≤ x ∨ (13 : Int) ∣ x
    · rw [if_pos hx] at this; omega
    · rw [if_neg hx, h13] at this; omega
  obtain ⟨c, hc⟩ : ∃ c, d % 3 = c := ⟨_, rfl⟩
  have hc1 : 0 ≤ c := by omega
  have hc2 : c < 3 := by omega
  have hw1 : IntKind.i64.wrap (a - 6) = a - 6 := by rw [IntKind.wrap_i64]; omega
  have hw2 : IntKind.i64.wrap d = d := by rw [IntKind.wrap_i64]; omega
  have hw3 : IntKind.i64.wrap (1 + c) = 1 + c := by rw [IntKind.wrap_i64]; omega
  have hres : numQ x = makeRat (a - 6) (1 + c) := by unfold numQ; rw [ha, hd, hc]
  rw [hres]
  have m1 := hid (mod_any x 13 (by decide) (by decide))
  have m2 := hid (mod_any d 3 (by decide) (by decide))
  rw [ha] at m1
  rw [hc] at m2
  have Hd := hid hd
  clear ha hc hres
  go_enter Try.func16, Try.ntmps16
  go_wp2_with fail
  refine (m1.out _).mono ?_; rintro e w1 ⟨rfl, rfl⟩
  go_wp2_with fail
  refine (m2.out _).mono ?_; rintro e w1 ⟨rfl, rfl⟩
  go_wp2_with fail
  refine (rOf_any (a - 6) (1 + c) (by omega) (by omega) (by omega) (by omega) _).mono ?_; rintro e w2 ⟨v2, rfl, C2, hb2⟩
  obtain ⟨rb, ro, rn, rc, so, sn, sc, rfl⟩ := C2.shape
  have hr1 := hr.next hb2
  obtain ⟨d0, d1, d2, g0, g1, g2, _, _, _, _⟩ := hr1
  have hr1 := hr.next hb2
  go_wp2_with fail
  refine bodyPost_ret (v := .agg #[.bool rb, .slice ro rn rc, .slice so sn sc]) (by simp [results, Try.results16, go_sem, d0, d1, d2]) rfl ?_
  exact hr1.rc C2

set_option maxHeartbeats 1000000 in
theorem at_any' (l : List Int) (i : Nat) (hi : i ≤ 1000000) (ao : Option Addr) (n cap : Nat) (w : World) (h : Sl w ao n cap (l.map (.int .i64))) :
    Calls Try.prog 17 #[.slice ao n cap, .int .i64 i] w fun e w' => e = .returned (.int .i64 (l.getD i 0)) ∧ w = w' := by
  have hb := h.bound
  have hl := hid h.lenMap
  by_cases hlt : i < n
  · obtain ⟨x, hx, b, off, rfl, hcell⟩ := h.get hlt
    have hx2 : Hid (l.getD i 0 = x) := hid (by rw [List.getD_eq_getElem?_getD, hx]; rfl)
    clear hx
    go_enter Try.func17, Try.ntmps17
    go_wp2_with fail
    go_ret
    exact ⟨retI hx2.out.symm, rfl⟩
  · have hx2 : Hid (l.getD i 0 = 0) := hid (by rw [List.getD_eq_getElem?_getD, List.getElem?_eq_none (by rw [hl.out]; omega)]; rfl)
    go_enter Try.func17, Try.ntmps17
    go_wp2_with fail
    go_ret
    exact ⟨retI hx2.out.symm, rfl⟩

/-- The numbers of a list as rationals. -/
def intsV (l : List Int) : V := fun i => makeRat (l.getD i 0) 1

set_option maxHeartbeats 2000000 in
theorem vector_any (l : List Int) (hl : ∀ x ∈ l, -9223372036854775808 ≤ x ∧ x ≤ 9223372036854775807) (ao : Option Addr) (n cap : Nat) (w : World) (h : Sl w ao n cap (l.map (.int .i64))) (hn : n ≤ 100000) :
    Calls Try.prog 34 #[.slice ao n cap] w (VecOut w n (intsV l)) := by
  have HL := hid hl
  clear hl
  go_enter Try.func34, Try.ntmps34
  go_wp2_with fail
  go_loopw [3, 4] (fun ov iv wr => ∃ k : Nat, k ≤ n ∧ iv = .int .i64 k ∧ VOwn wr w.heap.size ov k (intsV l) ∧ Below w.heap.size w wr) (fun _ i _ => n - (intOf i).toNat)
  case atStart => exact ⟨0, by omega, rfl, VOwn.nil _ _ _, Below.refl _ _⟩
  case round =>
    obtain ⟨k, hk, rfl, hown, hbel⟩ := hrel
    by_cases hlt : k < n
    · obtain ⟨x, hx, b, off, rfl, hcell⟩ := (h.next hbel).get hlt
      obtain ⟨x1, x2⟩ := HL.out x (List.mem_of_getElem? hx)
      have hx2 : Hid (intsV l k = makeRat x 1) := hid (by unfold intsV; rw [List.getD_eq_getElem?_getD, hx]; rfl)
      clear hx
      go_wp2_with fail
      refine (rOf_any x 1 x1 x2 (by decide) (by decide) _).mono ?_; rintro e w2 ⟨v2, rfl, C2, hb2⟩
      rw [← hx2.out] at C2
      have hbel2 := below_chain hbel hb2
      have hown2 := hown.next hb2
      obtain ⟨rb, ro, rn, rc, so, sn, sc, rfl⟩ := C2.shape
      have C3' := C2.next (below_alloc (.cells #[.bool rb, .slice ro rn rc, .slice so sn sc] 39))
      have hown3 := hown2.next (below_alloc (.cells #[.bool rb, .slice ro rn rc, .slice so sn sc] 39))
      have hc3 : C3 w2.heap.size (.bool rb) (.slice ro rn rc) (.slice so sn sc) (w2.alloc (.cells #[.bool rb, .slice ro rn rc, .slice so sn sc] 39)) := ⟨by simp [go_sem], by simp [go_sem], by simp [go_sem]⟩
      clear hown hown2 C2
      go_wp2_with (at_builtin; go_loud (refine wp_appV rfl (.tmp 11) (.tmp 17) rfl w.heap.size _ k (intsV l) rfl hown3 w2.heap.size 1 rfl rb ro rn rc so sn sc hc3 (intsV l k) C3' (by omega) (by have := hbel2.size; simp only [World.size_alloc]; omega) ?_))
      intro v' w4 hown4 hg4 hb4 _
      have hbel4 : Below w.heap.size w w4 := (hbel2.alloc hbel2.size _).trans hb4
      have hown5 : VOwn w4 w.heap.size v' (k + 1) (intsV l) := hown4.congr (fun i hi => by
        by_cases hik : i = k
        · subst hik; rw [updV_at]
        · rw [updV_ne _ _ hik])
      clear hown4
      go_wp2_with fail
      go_roundw
      case rel => exact ⟨k + 1, by omega, by go_num, hown5, hbel4⟩
      case measure => simp [intOf]; omega
    · obtain rfl : k = n := by omega
      go_wp2_with fail
      go_ret
      exact ⟨_, rfl, hown, hbel⟩

end Go.Proofs.Ytcoidofchofljaa
