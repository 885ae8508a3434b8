/-
  The walk of RationalRounds. No condition but the table of powers of ten.
-/
import Derived.Test.YtjppjhjfogjhaaaGreatDoorTxtL
namespace Go.Proofs.YtjppjhjfogjhaaaGreatDoor
open Go.RowKit Go.Lib
set_option linter.unusedSimpArgs false
set_option linter.unusedVariables false

theorem rSameE (q r : Rat) (hqr : q = r) (v v2 : Value) (w : World) (h : RatC w v q) (h' : RatC w v2 r) :
    Calls Tryz.prog 13 #[v, v2] w fun e w' => e = .returned (.bool true) ∧ Below w.heap.size w w' := by
  subst hqr
  refine (rSameC q q _ _ _ h h').mono ?_
  rintro e w1 ⟨rfl, hb⟩
  exact ⟨by rw [show decide (q = q) = true from decide_eq_true rfl], hb⟩

set_option maxHeartbeats 4000000 in
theorem walkRounds (w : World) (hp : Pow w) (s : Bool) (N D : List Nat) (bo : Option Addr) (m ca : Nat) (co : Option Addr) (l cb : Nat) (hN : Sl w bo m ca (u32s N)) (hD : Sl w co l cb (u32s D)) (LN : Lim N) (LD : Lim D) (zb : bo = none → ca = 0) (zc : co = none → cb = 0) (i : Int) {p : Prop} (_ : p) :
    Calls Tryz.prog 3 #[.agg #[.bool s, .slice bo m ca, .slice co l cb], .int .i64 i] w fun e w' => e = .returned (.bool true) ∧ Below w.heap.size w w' := by
  have bn := hN.bound
  have bd := hD.bound
  have X := Bk.start (Below.refl w.heap.size w) rfl (.bool s) (.slice bo m ca) (.slice co l cb) 24
  have HB := X.bel
  cases hL : lightB m l with
  | false =>
    have HL := hid hL
    clear hL
    go_enter Tryz.func3, Tryz.ntmps3
    go_wp2_with fail
    refine (llight_any s bo co m ca l cb bn bd _).mono ?_; rintro e w1 ⟨rfl, hb1⟩
    rw [HL.out]
    go_wp2_with fail
    refine (lawake_any _ ((hp.next HB).next hb1)).mono ?_; rintro e w2 ⟨rfl, hb2⟩
    go_wp2_with fail
    go_ret
    exact ⟨rfl, below_chain (below_chain HB hb1) hb2⟩
  | true =>
    obtain ⟨VX, fx⟩ := arg_V (s := s) hN hD LN LD zb zc hL
    have HL := hid hL
    generalize ratOf s N D = x at *
    clear hL hN hD LN LD
    go_enter Tryz.func3, Tryz.ntmps3
    go_wp2_with fail
    refine (llight_any s bo co m ca l cb bn bd _).mono ?_; rintro e w1 ⟨rfl, hb1⟩
    rw [HL.out]
    have X := X.next hb1
    have HB := below_chain HB hb1
    have VX := VX.next HB
    have HP := hp.next HB
    clear hb1 hp bn bd HL zb zc
    go_wp2_with fail
    have hd := (Below.refl w1.heap.size w1).drew
    have hS0 : C3 w.heap.size (.bool s) (.slice bo m ca) (.slice co l cb) w1.drew := X.drew.c3
    have hKp : ∀ w' w'', C3 w.heap.size (.bool s) (.slice bo m ca) (.slice co l cb) w' → Below w'.heap.size w' w'' → C3 w.heap.size (.bool s) (.slice bo m ca) (.slice co l cb) w'' := fun w' w'' h hb => h.next hb
    replace VX := VX.next hd
    replace HP := HP.next hd
    replace HB := HB.trans (hd.mono HB.size)
    refine wp_region_held_drew (S := (fun w' => C3 w.heap.size (.bool s) (.slice bo m ca) (.slice co l cb) w')) (by kernel_rfl) (hS0) (fun hHeld => ?_)
    refine wpAnyH_ready (rs := [0]) (by kernel_rfl) (by simp) (AllReadyH.cons rfl (fun K hK => ?_) AllReadyH.nil)
    go_simp
    go_at_call 12
    refine (lawake_any _ HP).mono ?_; rintro e wx1 ⟨rfl, hb1⟩
    replace VX := VX.next hb1
    replace HP := HP.next hb1
    replace HB := below_chain HB hb1
    go_wp2_with fail
    refine hK.out _ _ (hKp _ _ hHeld hb1) (fun hHeld => ?_)
    clear hK K hb1
    try simp only [Act.put, List.setIfInBounds_toArray, List.set_cons_zero, List.set_cons_succ]
    refine held_take (i := 1) (d := 10) (v := ?_) rfl rfl (by kernel_rfl) (by kernel_rfl) (by kernel_rfl) (fun _ _ _ h => h) (by rfl) ?_ hHeld ?_
    rotate_left
    · intro w hSw; (try dsimp only at hSw); go_simp; with_reducible rfl
    try simp only [Act.put, List.setIfInBounds_toArray, List.set_cons_zero, List.set_cons_succ]
    refine held_take (i := 2) (d := 11) (v := ?_) rfl rfl (by kernel_rfl) (by kernel_rfl) (by kernel_rfl) (fun _ _ _ h => h) (by rfl) ?_ hHeld ?_
    rotate_left
    · intro w hSw; (try dsimp only at hSw); go_simp; with_reducible rfl
    try simp only [Act.put, List.setIfInBounds_toArray, List.set_cons_zero, List.set_cons_succ]
    refine held_take (i := 3) (d := 12) (v := ?_) rfl rfl (by kernel_rfl) (by kernel_rfl) (by kernel_rfl) (fun _ _ _ h => h) (by rfl) ?_ hHeld ?_
    rotate_left
    · intro w hSw; (try dsimp only at hSw); go_simp; with_reducible rfl
    try simp only [Act.put, List.setIfInBounds_toArray, List.set_cons_zero, List.set_cons_succ]
    refine held_take (i := 5) (d := 14) (v := ?_) rfl rfl (by kernel_rfl) (by kernel_rfl) (by kernel_rfl) (fun _ _ _ h => h) (by rfl) ?_ hHeld ?_
    rotate_left
    · intro w hSw; (try dsimp only at hSw); go_simp; with_reducible rfl
    try simp only [Act.put, List.setIfInBounds_toArray, List.set_cons_zero, List.set_cons_succ]
    refine held_take (i := 6) (d := 15) (v := ?_) rfl rfl (by kernel_rfl) (by kernel_rfl) (by kernel_rfl) (fun _ _ _ h => h) (by rfl) ?_ hHeld ?_
    rotate_left
    · intro w hSw; (try dsimp only at hSw); go_simp; with_reducible rfl
    try simp only [Act.put, List.setIfInBounds_toArray, List.set_cons_zero, List.set_cons_succ]
    refine wpAnyH_ready (rs := [4]) (by kernel_rfl) (by simp) (AllReadyH.cons rfl (fun K hK => ?_) AllReadyH.nil)
    go_simp
    go_at_call 14
    refine (Down_any x i _ _ VX 6 fx (by decide)).mono ?_; rintro e wx2 ⟨v2, rfl, C2, hb2⟩
    have f2 : Fit 25 (downI x i) := fit_downI fx i
    replace VX := VX.next hb2
    replace HP := HP.next hb2
    replace HB := below_chain HB hb2
    go_wp2_with fail
    refine hK.out _ _ (hKp _ _ hHeld hb2) (fun hHeld => ?_)
    clear hK K hb2
    try simp only [Act.put, List.setIfInBounds_toArray, List.set_cons_zero, List.set_cons_succ]
    refine wpAnyH_ready (rs := [7]) (by kernel_rfl) (by simp) (AllReadyH.cons rfl (fun K hK => ?_) AllReadyH.nil)
    go_simp
    go_at_call 15
    refine (rDown_any x i _ _ VX 6 fx (by decide)).mono ?_; rintro e wx3 ⟨v3, rfl, C3, hb3⟩
    have f3 : Fit 25 (downI x i) := fit_downI fx i
    replace VX := VX.next hb3
    replace HP := HP.next hb3
    replace C2 := C2.next hb3
    replace HB := below_chain HB hb3
    go_wp2_with fail
    refine hK.out _ _ (hKp _ _ hHeld hb3) (fun hHeld => ?_)
    clear hK K hb3
    try simp only [Act.put, List.setIfInBounds_toArray, List.set_cons_zero, List.set_cons_succ]
    refine wpAnyH_ready (rs := [8]) (by kernel_rfl) (by simp) (AllReadyH.cons rfl (fun K hK => ?_) AllReadyH.nil)
    go_simp
    go_at_call 13
    refine (rSameE (downI x i) (downI x i) rfl _ _ _ C2 C3).mono ?_; rintro e wx4 ⟨rfl, hb4⟩
    replace VX := VX.next hb4
    replace HP := HP.next hb4
    replace C2 := C2.next hb4
    replace C3 := C3.next hb4
    replace HB := below_chain HB hb4
    go_wp2_with fail
    refine hK.out _ _ (hKp _ _ hHeld hb4) (fun hHeld => ?_)
    clear hK K hb4
    try simp only [Act.put, List.setIfInBounds_toArray, List.set_cons_zero, List.set_cons_succ]
    refine held_take (i := 9) (d := 18) (v := ?_) rfl rfl (by kernel_rfl) (by kernel_rfl) (by kernel_rfl) (fun _ _ _ h => h) (by rfl) ?_ hHeld ?_
    rotate_left
    · intro w hSw; (try dsimp only at hSw); go_simp; with_reducible rfl
    try simp only [Act.put, List.setIfInBounds_toArray, List.set_cons_zero, List.set_cons_succ]
    refine held_take (i := 10) (d := 19) (v := ?_) rfl rfl (by kernel_rfl) (by kernel_rfl) (by kernel_rfl) (fun _ _ _ h => h) (by rfl) ?_ hHeld ?_
    rotate_left
    · intro w hSw; (try dsimp only at hSw); go_simp; with_reducible rfl
    try simp only [Act.put, List.setIfInBounds_toArray, List.set_cons_zero, List.set_cons_succ]
    refine held_take (i := 11) (d := 20) (v := ?_) rfl rfl (by kernel_rfl) (by kernel_rfl) (by kernel_rfl) (fun _ _ _ h => h) (by rfl) ?_ hHeld ?_
    rotate_left
    · intro w hSw; (try dsimp only at hSw); go_simp; with_reducible rfl
    try simp only [Act.put, List.setIfInBounds_toArray, List.set_cons_zero, List.set_cons_succ]
    refine held_take (i := 12) (d := 21) (v := ?_) rfl rfl (by kernel_rfl) (by kernel_rfl) (by kernel_rfl) (fun _ _ _ h => h) (by rfl) ?_ hHeld ?_
    rotate_left
    · intro w hSw; (try dsimp only at hSw); go_simp; with_reducible rfl
    try simp only [Act.put, List.setIfInBounds_toArray, List.set_cons_zero, List.set_cons_succ]
    refine held_take (i := 14) (d := 23) (v := ?_) rfl rfl (by kernel_rfl) (by kernel_rfl) (by kernel_rfl) (fun _ _ _ h => h) (by rfl) ?_ hHeld ?_
    rotate_left
    · intro w hSw; (try dsimp only at hSw); go_simp; with_reducible rfl
    try simp only [Act.put, List.setIfInBounds_toArray, List.set_cons_zero, List.set_cons_succ]
    refine held_take (i := 15) (d := 24) (v := ?_) rfl rfl (by kernel_rfl) (by kernel_rfl) (by kernel_rfl) (fun _ _ _ h => h) (by rfl) ?_ hHeld ?_
    rotate_left
    · intro w hSw; (try dsimp only at hSw); go_simp; with_reducible rfl
    try simp only [Act.put, List.setIfInBounds_toArray, List.set_cons_zero, List.set_cons_succ]
    refine wpAnyH_ready (rs := [13]) (by kernel_rfl) (by simp) (AllReadyH.cons rfl (fun K hK => ?_) AllReadyH.nil)
    go_simp
    go_at_call 16
    refine (Up_any x i _ _ VX 6 fx (by decide)).mono ?_; rintro e wx5 ⟨v5, rfl, C5, hb5⟩
    have f5 : Fit 25 (upI x i) := fit_upI fx i
    replace VX := VX.next hb5
    replace HP := HP.next hb5
    replace C2 := C2.next hb5
    replace C3 := C3.next hb5
    replace HB := below_chain HB hb5
    go_wp2_with fail
    refine hK.out _ _ (hKp _ _ hHeld hb5) (fun hHeld => ?_)
    clear hK K hb5
    try simp only [Act.put, List.setIfInBounds_toArray, List.set_cons_zero, List.set_cons_succ]
    refine wpAnyH_ready (rs := [16]) (by kernel_rfl) (by simp) (AllReadyH.cons rfl (fun K hK => ?_) AllReadyH.nil)
    go_simp
    go_at_call 17
    refine (rUp_any x i _ _ VX 6 fx (by decide)).mono ?_; rintro e wx6 ⟨v6, rfl, C6, hb6⟩
    have f6 : Fit 25 (upI x i) := fit_upI fx i
    replace VX := VX.next hb6
    replace HP := HP.next hb6
    replace C2 := C2.next hb6
    replace C3 := C3.next hb6
    replace C5 := C5.next hb6
    replace HB := below_chain HB hb6
    go_wp2_with fail
    refine hK.out _ _ (hKp _ _ hHeld hb6) (fun hHeld => ?_)
    clear hK K hb6
    try simp only [Act.put, List.setIfInBounds_toArray, List.set_cons_zero, List.set_cons_succ]
    refine wpAnyH_ready (rs := [17]) (by kernel_rfl) (by simp) (AllReadyH.cons rfl (fun K hK => ?_) AllReadyH.nil)
    go_simp
    go_at_call 13
    refine (rSameE (upI x i) (upI x i) rfl _ _ _ C5 C6).mono ?_; rintro e wx7 ⟨rfl, hb7⟩
    replace VX := VX.next hb7
    replace HP := HP.next hb7
    replace C2 := C2.next hb7
    replace C3 := C3.next hb7
    replace C5 := C5.next hb7
    replace C6 := C6.next hb7
    replace HB := below_chain HB hb7
    go_wp2_with fail
    refine hK.out _ _ (hKp _ _ hHeld hb7) (fun hHeld => ?_)
    clear hK K hb7
    try simp only [Act.put, List.setIfInBounds_toArray, List.set_cons_zero, List.set_cons_succ]
    refine held_take (i := 18) (d := 27) (v := ?_) rfl rfl (by kernel_rfl) (by kernel_rfl) (by kernel_rfl) (fun _ _ _ h => h) (by rfl) ?_ hHeld ?_
    rotate_left
    · intro w hSw; (try dsimp only at hSw); go_simp; with_reducible rfl
    try simp only [Act.put, List.setIfInBounds_toArray, List.set_cons_zero, List.set_cons_succ]
    refine held_take (i := 19) (d := 4) (v := ?_) rfl rfl (by kernel_rfl) (by kernel_rfl) (by kernel_rfl) (fun _ _ _ h => h) (by rfl) ?_ hHeld ?_
    rotate_left
    · intro w hSw; (try dsimp only at hSw); go_simp; with_reducible rfl
    try simp only [Act.put, List.setIfInBounds_toArray, List.set_cons_zero, List.set_cons_succ]
    refine wpAnyH_done (by kernel_rfl) ?_ _
    go_wp2_with fail
    go_ret
    exact ⟨rfl, HB⟩

end Go.Proofs.YtjppjhjfogjhaaaGreatDoor
