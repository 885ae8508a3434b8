/-
  The walk of RationalWrites. No condition but the table of powers of ten.
-/
import Derived.Test.YtjppjhjfogjhaaaGreatDoorLawA
namespace Go.Proofs.YtjppjhjfogjhaaaGreatDoor
open Go.RowKit Go.Lib
set_option linter.unusedSimpArgs false
set_option linter.unusedVariables false

set_option maxHeartbeats 8000000 in
set_option maxRecDepth 100000 in
theorem walkWrites (w : World) (hp : Pow w) (s : Bool) (N D : List Nat) (bo : Option Addr) (m ca : Nat) (co : Option Addr) (l cb : Nat) (hN1 : Sl w bo m ca (u32s N)) (hD1 : Sl w co l cb (u32s D)) (LN1 : Lim N) (LD1 : Lim D) (zb1 : bo = none → ca = 0) (zc1 : co = none → cb = 0) (text : ByteArray) (ht : text.size ≤ maxLen) :
    Calls Tryz.prog 4 #[.agg #[.bool s, .slice bo m ca, .slice co l cb], .string text] w fun e w' => e = .returned (.bool true) ∧ Below w.heap.size w w' := by
  have hts : text.size ≤ 9223372036854775807 := ht
  clear ht
  have bn1 := hN1.bound
  have bd1 := hD1.bound
  have X : Bk w w.heap.size (.bool s) (.slice bo m ca) (.slice co l cb) (w.alloc (.cells #[.bool s, .slice bo m ca, .slice co l cb] 24)) := Bk.start (Below.refl w.heap.size w) rfl (.bool s) (.slice bo m ca) (.slice co l cb) 24
  have HB := X.bel
  cases hL1 : lightB m l with
  | false =>
    have HL1 := hid hL1
    clear hL1
    go_enter Tryz.func4, Tryz.ntmps4
    go_wp2_with fail
    refine (llight_any s bo co m ca l cb bn1 bd1 _).mono ?_; rintro e w1 ⟨rfl, hb1⟩
    rw [HL1.out]
    replace X := X.next hb1
    replace HB := below_chain HB hb1
    clear hb1
    go_wp2_with fail
    refine (lawake_any _ (hp.next HB)).mono ?_; rintro e wq ⟨rfl, hbq⟩
    go_wp2_with fail
    go_ret
    exact ⟨rfl, below_chain HB hbq⟩
  | true =>
    by_cases h100 : text.size ≤ 100
    · obtain ⟨VX, fx⟩ := arg_V (s := s) hN1 hD1 LN1 LD1 zb1 zc1 hL1
      have HL1 := hid hL1
      generalize ratOf s N D = x at *
      clear hL1 hN1 hD1 LN1 LD1
      replace VX := VX.next HB
      go_enter Tryz.func4, Tryz.ntmps4
      go_wp2_with fail
      refine (llight_any s bo co m ca l cb bn1 bd1 _).mono ?_; rintro e w1 ⟨rfl, hb1⟩
      rw [HL1.out]
      replace X := X.next hb1
      replace VX := VX.next hb1
      replace HB := below_chain HB hb1
      clear hb1
      have HP := hp.next HB
      clear hp bn1 bd1 HL1 zb1 zc1
      obtain ⟨TL, hTL⟩ : ∃ l, text.data.toList = l := ⟨_, rfl⟩
      have hPa := Parse_any text (by omega)
      have hPb := rParse_any text (by omega)
      rw [hTL] at hPa hPb
      have HPa := hid hPa
      have HPb := hid hPb
      obtain ⟨po, hpo⟩ : ∃ b, parseOk TL = b := ⟨_, rfl⟩
      have HO := hid hpo
      obtain ⟨Q, hq⟩ : ∃ q, parseQ TL = q := ⟨_, rfl⟩
      have HQ := hid hq
      obtain ⟨FL, hfl⟩ : ∃ l, fmtQ x = l := ⟨_, rfl⟩
      have HF := hid hfl
      clear hpo hq hfl hPa hPb hTL
      have e1 : (po == po) = true := by simp
      have e2 : ((⟨FL.toArray⟩ : ByteArray).toList == (⟨FL.toArray⟩ : ByteArray).toList) = true := by simp
      go_wp2_with fail
      refine (HPa.out _).mono ?_
      unfold ParseOut
      rw [HO.out, HQ.out]
      rintro e w3 ⟨v3, rfl, CA, hb3⟩
      obtain ⟨rb, ro, rn, rc, so, sn, sc, rfl⟩ := CA.shape
      replace X := X.next hb3
      replace VX := VX.next hb3
      replace HP := HP.next hb3
      replace HB := below_chain HB hb3
      clear hb3
      have hb4 : Below w3.heap.size w3 (w3.alloc (.cells #[.bool rb, .slice ro rn rc, .slice so sn sc] 24)) := below_alloc _
      have A := Bk.start HB rfl (.bool rb) (.slice ro rn rc) (.slice so sn sc) 24
      replace X := X.next hb4
      replace VX := VX.next hb4
      replace HP := HP.next hb4
      replace CA := CA.next hb4
      replace HB := below_chain HB hb4
      clear hb4
      go_wp2_with fail
      refine (HPb.out _).mono ?_
      unfold ParseOut
      rw [HO.out, HQ.out]
      rintro e w5 ⟨v5, rfl, CB, hb5⟩
      obtain ⟨tb, to', tn, tc, uo, un, uc, rfl⟩ := CB.shape
      replace X := X.next hb5
      replace VX := VX.next hb5
      replace HP := HP.next hb5
      replace A := A.next hb5
      replace CA := CA.next hb5
      replace HB := below_chain HB hb5
      clear hb5
      have hb6 : Below w5.heap.size w5 (w5.alloc (.cells #[.bool tb, .slice to' tn tc, .slice uo un uc] 24)) := below_alloc _
      have B := Bk.start HB rfl (.bool tb) (.slice to' tn tc) (.slice uo un uc) 24
      replace X := X.next hb6
      replace VX := VX.next hb6
      replace HP := HP.next hb6
      replace A := A.next hb6
      replace CA := CA.next hb6
      replace CB := CB.next hb6
      replace HB := below_chain HB hb6
      clear hb6
      go_upto_region 5 with fail
      generalize w5.alloc (.cells #[.bool tb, .slice to' tn tc, .slice uo un uc] 24) = W at *
      have hd := (Below.refl W.heap.size W).drew
      have hS0 : C3 w.heap.size (.bool s) (.slice bo m ca) (.slice co l cb) W.drew ∧ C3 w3.heap.size (.bool rb) (.slice ro rn rc) (.slice so sn sc) W.drew ∧ C3 w5.heap.size (.bool tb) (.slice to' tn tc) (.slice uo un uc) W.drew := ⟨X.drew.c3, A.drew.c3, B.drew.c3⟩
      have hKp : ∀ w' w'', (C3 w.heap.size (.bool s) (.slice bo m ca) (.slice co l cb) w' ∧ C3 w3.heap.size (.bool rb) (.slice ro rn rc) (.slice so sn sc) w' ∧ C3 w5.heap.size (.bool tb) (.slice to' tn tc) (.slice uo un uc) w') → Below w'.heap.size w' w'' → (C3 w.heap.size (.bool s) (.slice bo m ca) (.slice co l cb) w'' ∧ C3 w3.heap.size (.bool rb) (.slice ro rn rc) (.slice so sn sc) w'' ∧ C3 w5.heap.size (.bool tb) (.slice to' tn tc) (.slice uo un uc) w'') := fun w' w'' h hb => ⟨h.1.next hb, h.2.1.next hb, h.2.2.next hb⟩
      clear X A B
      replace VX := VX.next hd
      replace HP := HP.next hd
      replace CA := CA.next hd
      replace CB := CB.next hd
      replace HB := HB.trans (hd.mono HB.size)
      refine wp_region_held_drew (S := (fun w' => C3 w.heap.size (.bool s) (.slice bo m ca) (.slice co l cb) w' ∧ C3 w3.heap.size (.bool rb) (.slice ro rn rc) (.slice so sn sc) w' ∧ C3 w5.heap.size (.bool tb) (.slice to' tn tc) (.slice uo un uc) w')) (by kernel_rfl) (hS0) (fun hHeld => ?_)
      refine wpAnyH_ready (rs := [0]) (by kernel_rfl) (by simp) (AllReadyH.cons rfl (fun K hK => ?_) AllReadyH.nil)
      go_simp
      go_at_call 12
      refine (lawake_any _ HP).mono ?_; rintro e wx1 ⟨rfl, hb1⟩
      replace VX := VX.next hb1
      replace HP := HP.next hb1
      replace CA := CA.next hb1
      replace CB := CB.next hb1
      replace HB := below_chain HB hb1
      go_wp2_with fail
      refine hK.out _ _ (hKp _ _ hHeld hb1) (fun hHeld => ?_)
      clear hK K hb1
      try simp only [Act.put, List.setIfInBounds_toArray, List.set_cons_zero, List.set_cons_succ]
      refine held_take (i := 1) (d := 29) (v := ?_) rfl rfl (by kernel_rfl) (by kernel_rfl) (by kernel_rfl) (fun _ _ _ h => h) (by rfl) ?_ hHeld ?_
      rotate_left
      · intro w hSw; (try dsimp only at hSw); go_simp; with_reducible rfl
      try simp only [Act.put, List.setIfInBounds_toArray, List.set_cons_zero, List.set_cons_succ]
      refine held_take (i := 2) (d := 30) (v := ?_) rfl rfl (by kernel_rfl) (by kernel_rfl) (by kernel_rfl) (fun _ _ _ h => h) (by rfl) ?_ hHeld ?_
      rotate_left
      · intro w hSw; (try dsimp only at hSw); go_simp; with_reducible rfl
      try simp only [Act.put, List.setIfInBounds_toArray, List.set_cons_zero, List.set_cons_succ]
      refine held_take (i := 4) (d := 32) (v := ?_) rfl rfl (by kernel_rfl) (by kernel_rfl) (by kernel_rfl) (fun _ _ _ h => h) (by rfl) ?_ hHeld ?_
      rotate_left
      · intro w hSw; (try dsimp only at hSw); go_simp; with_reducible rfl
      try simp only [Act.put, List.setIfInBounds_toArray, List.set_cons_zero, List.set_cons_succ]
      refine wpAnyH_ready (rs := [3]) (by kernel_rfl) (by simp) (AllReadyH.cons rfl (fun K hK => ?_) AllReadyH.nil)
      go_simp
      go_at_call 20
      refine (Format_any x _ _ VX 6 fx (by decide) HP).mono ?_; rw [HF.out]; rintro e wx2 ⟨s2, rfl, hs2, hb2⟩; obtain rfl := str_eq hs2; clear hs2
      replace VX := VX.next hb2
      replace HP := HP.next hb2
      replace CA := CA.next hb2
      replace CB := CB.next hb2
      replace HB := below_chain HB hb2
      go_wp2_with fail
      refine hK.out _ _ (hKp _ _ hHeld hb2) (fun hHeld => ?_)
      clear hK K hb2
      try simp only [Act.put, List.setIfInBounds_toArray, List.set_cons_zero, List.set_cons_succ]
      refine wpAnyH_ready (rs := [5]) (by kernel_rfl) (by simp) (AllReadyH.cons rfl (fun K hK => ?_) AllReadyH.nil)
      go_simp
      go_at_call 21
      refine (rFormat_any x _ _ VX 6 fx (by decide)).mono ?_; rw [HF.out]; rintro e wx3 ⟨s3, rfl, hs3, hb3⟩; obtain rfl := str_eq hs3; clear hs3
      replace VX := VX.next hb3
      replace HP := HP.next hb3
      replace CA := CA.next hb3
      replace CB := CB.next hb3
      replace HB := below_chain HB hb3
      go_wp2_with fail
      refine hK.out _ _ (hKp _ _ hHeld hb3) (fun hHeld => ?_)
      clear hK K hb3
      try simp only [Act.put, List.setIfInBounds_toArray, List.set_cons_zero, List.set_cons_succ]
      refine held_take (i := 6) (d := 34) (v := ?_) rfl rfl (by kernel_rfl) (by kernel_rfl) (by kernel_rfl) (fun _ _ _ h => h) (by rfl) ?_ hHeld ?_
      rotate_left
      · intro w hSw; (try dsimp only at hSw); go_simp; with_reducible rfl
      try simp only [Act.put, List.setIfInBounds_toArray, List.set_cons_zero, List.set_cons_succ]
      refine held_take (i := 7) (d := 35) (v := ?_) rfl rfl (by kernel_rfl) (by kernel_rfl) (by kernel_rfl) (fun _ _ _ h => h) (by rfl) ?_ hHeld ?_
      rotate_left
      · intro w hSw; (try dsimp only at hSw); go_simp; with_reducible rfl
      try simp only [Act.put, List.setIfInBounds_toArray, List.set_cons_zero, List.set_cons_succ]
      refine held_take (i := 8) (d := 36) (v := ?_) rfl rfl (by kernel_rfl) (by kernel_rfl) (by kernel_rfl) (fun _ _ _ h => h) (by rfl) ?_ hHeld ?_
      rotate_left
      · intro w hSw; (try dsimp only at hSw); go_simp; with_reducible rfl
      try simp only [Act.put, List.setIfInBounds_toArray, List.set_cons_zero, List.set_cons_succ]
      refine held_take (i := 9) (d := 37) (v := ?_) rfl rfl (by kernel_rfl) (by kernel_rfl) (by kernel_rfl) (fun _ _ _ h => h) (by rfl) ?_ hHeld ?_
      rotate_left
      · intro w hSw; (try dsimp only at hSw); go_simp; with_reducible rfl
      try simp only [Act.put, List.setIfInBounds_toArray, List.set_cons_zero, List.set_cons_succ]
      refine held_take (i := 10) (d := 38) (v := ?_) rfl rfl (by kernel_rfl) (by kernel_rfl) (by kernel_rfl) (fun _ _ _ h => h) (by rfl) ?_ hHeld ?_
      rotate_left
      · intro w hSw; (try dsimp only at hSw); go_simp; with_reducible rfl
      try simp only [Act.put, List.setIfInBounds_toArray, List.set_cons_zero, List.set_cons_succ]
      refine wpAnyH_ready (rs := [11]) (by kernel_rfl) (by simp) (AllReadyH.cons rfl (fun K hK => ?_) AllReadyH.nil)
      go_simp
      go_at_call 13
      refine (rSameE Q Q rfl _ _ _ CA CB).mono ?_; rintro e wx4 ⟨rfl, hb4⟩
      replace VX := VX.next hb4
      replace HP := HP.next hb4
      replace CA := CA.next hb4
      replace CB := CB.next hb4
      replace HB := below_chain HB hb4
      go_wp2_with fail
      refine hK.out _ _ (hKp _ _ hHeld hb4) (fun hHeld => ?_)
      clear hK K hb4
      try simp only [Act.put, List.setIfInBounds_toArray, List.set_cons_zero, List.set_cons_succ]
      refine held_take (i := 12) (d := 40) (v := ?_) rfl rfl (by kernel_rfl) (by kernel_rfl) (by kernel_rfl) (fun _ _ _ h => h) (by rfl) ?_ hHeld ?_
      rotate_left
      · intro w hSw; (try dsimp only at hSw); go_simp; with_reducible rfl
      try simp only [Act.put, List.setIfInBounds_toArray, List.set_cons_zero, List.set_cons_succ]
      refine held_take (i := 13) (d := 41) (v := ?_) rfl rfl (by kernel_rfl) (by kernel_rfl) (by kernel_rfl) (fun _ _ _ h => h) (by rfl) ?_ hHeld ?_
      rotate_left
      · intro w hSw; (try dsimp only at hSw); go_simp; with_reducible rfl
      try simp only [Act.put, List.setIfInBounds_toArray, List.set_cons_zero, List.set_cons_succ]
      refine held_take (i := 14) (d := 42) (v := ?_) rfl rfl (by kernel_rfl) (by kernel_rfl) (by kernel_rfl) (fun _ _ _ h => h) (by rfl) ?_ hHeld ?_
      rotate_left
      · intro w hSw; (try dsimp only at hSw); go_simp; with_reducible rfl
      try simp only [Act.put, List.setIfInBounds_toArray, List.set_cons_zero, List.set_cons_succ]
      refine held_take (i := 15) (d := 43) (v := ?_) rfl rfl (by kernel_rfl) (by kernel_rfl) (by kernel_rfl) (fun _ _ _ h => h) (by rfl) ?_ hHeld ?_
      rotate_left
      · intro w hSw; (try dsimp only at hSw); go_simp; with_reducible rfl
      try simp only [Act.put, List.setIfInBounds_toArray, List.set_cons_zero, List.set_cons_succ]
      refine held_take (i := 16) (d := 44) (v := ?_) rfl rfl (by kernel_rfl) (by kernel_rfl) (by kernel_rfl) (fun _ _ _ h => h) (by rfl) ?_ hHeld ?_
      rotate_left
      · intro w hSw; (try dsimp only at hSw); go_simp; with_reducible rfl
      try simp only [Act.put, List.setIfInBounds_toArray, List.set_cons_zero, List.set_cons_succ]
      refine held_take (i := 17) (d := 45) (v := ?_) rfl rfl (by kernel_rfl) (by kernel_rfl) (by kernel_rfl) (fun _ _ _ h => h) (by rfl) ?_ hHeld ?_
      rotate_left
      · intro w hSw; (try dsimp only at hSw); go_simp; with_reducible rfl
      try simp only [Act.put, List.setIfInBounds_toArray, List.set_cons_zero, List.set_cons_succ]
      refine held_take (i := 18) (d := 4) (v := ?_) rfl rfl (by kernel_rfl) (by kernel_rfl) (by kernel_rfl) (fun _ _ _ h => h) (by rfl) ?_ hHeld ?_
      rotate_left
      · intro w hSw; (try dsimp only at hSw); go_simp; with_reducible rfl
      try simp only [Act.put, List.setIfInBounds_toArray, List.set_cons_zero, List.set_cons_succ]
      refine wpAnyH_done (by kernel_rfl) ?_ _
      go_wp2_with fail
      go_ret
      exact ⟨rfl, HB⟩
    · have h100' : decide (text.size ≤ 100) = false := decide_eq_false h100
      have HL1 := hid hL1
      clear hL1
      go_enter Tryz.func4, Tryz.ntmps4
      go_wp2_with fail
      refine (llight_any s bo co m ca l cb bn1 bd1 _).mono ?_; rintro e w1 ⟨rfl, hb1⟩
      rw [HL1.out]
      replace X := X.next hb1
      replace HB := below_chain HB hb1
      clear hb1
      go_wp2_with fail
      refine (lawake_any _ (hp.next HB)).mono ?_; rintro e wq ⟨rfl, hbq⟩
      go_wp2_with fail
      go_ret
      exact ⟨rfl, below_chain HB hbq⟩

end Go.Proofs.YtjppjhjfogjhaaaGreatDoor
