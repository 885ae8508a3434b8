/-
  The walk of WordsRankBack. No condition.
-/
import Derived.Test.YteancfcmiiddiaaRnk
import Derived.Test.YteancfcmiiddiaaMade
namespace Go.Proofs.Yteancfcmiiddiaa
open Go.RowKit
set_option linter.unusedSimpArgs false
set_option linter.unusedVariables false

theorem word20_any (l : List Int) (s : Int) (h1 : 1 ≤ s) (h2 : s ≤ 32) (ao : Option Addr) (n cap : Nat) (w : World) (h : Sl w ao n cap (i64s l)) :
    Calls Try.prog 60 #[.slice ao n cap, .int .i64 s, .int .i64 20] w (IntsRes w (wordM l s 20)) := word_any l s h1 h2 20 (by decide) ao n cap w h

theorem okW_mk {l : List Int} {s : Int} (h1 : 1 ≤ s) (h2 : s ≤ 32) (hl : l.length ≤ 256) (h : ∀ x ∈ l, 1 ≤ x ∧ x ≤ s) : okW l s = true := decide_eq_true ⟨h1, h2, hl, h⟩

theorem back_facts (V U : List Int) (S : Int) (h1 : 1 ≤ S) (h2 : S ≤ 32) (hV : ∀ x ∈ V, 1 ≤ x ∧ x ≤ S) (lV : V.length ≤ 20) (hU : ∀ x ∈ U, 1 ≤ x ∧ x ≤ S) (lU : U.length ≤ 20) :
    ∃ (A B : Int) (X : List Int), rankQ V S = (A : Rat) ∧ rankErr V S = 0 ∧ rankQ U S = (B : Rat) ∧ rankErr U S = 0 ∧ unrRes (A : Rat) S = V ∧ unrErr (A : Rat) S = 0 ∧ nextRes V S = X ∧ nextErr V S = 0 ∧
      rankQ X S = (A : Rat) + ((1 : Int) : Rat) ∧ rankErr X S = 0 ∧ cmpW V U = rsg ((A : Rat) - (B : Rat)) ∧ cmpW V X = -1 ∧ Fit 257 (A : Rat) ∧ Fit 257 (B : Rat) := by
  have okV := okW_mk h1 h2 (by omega) hV
  have okU := okW_mk h1 h2 (by omega) hU
  have hX := next_mem h1 V hV
  have lX := next_len V S
  have okX := okW_mk h1 h2 (show (nextW V S).length ≤ 256 by omega) hX
  obtain ⟨T, rfl⟩ := Int.eq_ofNat_of_zero_le (show 0 ≤ S by omega)
  have hnn := rank_nonneg h1 V hV
  have hunr : unrOk ((rankI T V : Int) : Rat) T = true := by
    unfold unrOk
    refine decide_eq_true ⟨h1, h2, ?_, ?_, ?_⟩
    · rw [Rat.num_intCast]; exact hnn
    · exact Rat.den_intCast _
    · rw [Rat.num_intCast, Int.toNat_natCast]
      exact (rank_len (by omega) V hV 256).1 (by omega)
  have hle : ¬ 256 < (nextW V T).length := by omega
  refine ⟨rankI T V, rankI T U, nextW V T, ?_, ?_, ?_, ?_, ?_, ?_, ?_, ?_, ?_, ?_, ?_, ?_, fit_rank h1 h2 V hV (by omega), fit_rank h1 h2 U hU (by omega)⟩
  · unfold rankQ; rw [okV]; rfl
  · unfold rankErr; rw [okV]; rfl
  · unfold rankQ; rw [okU]; rfl
  · unfold rankErr; rw [okU]; rfl
  · unfold unrRes; rw [hunr, if_pos rfl, Rat.num_intCast, Int.toNat_natCast]; exact unr_rank (by omega) V hV
  · unfold unrErr; rw [hunr]; rfl
  · unfold nextRes; rw [okV, if_pos rfl, if_neg hle]
  · unfold nextErr; rw [okV, if_pos rfl, if_neg hle]
  · unfold rankQ; rw [okX, if_pos rfl, rank_next V hV, Rat.intCast_add]
  · unfold rankErr; rw [okX]; rfl
  · rw [rsg_sub]; exact cmp_rank (by omega) V U hV hU
  · rw [cmp_rank (by omega) V (nextW V T) hV hX, rank_next V hV]
    unfold sgI; rw [if_pos (by omega)]

theorem rwSameB (V : List Int) (ao bo : Option Addr) (n m cap cap' : Nat) (w : World) (hV : Sl w ao n cap (i64s V)) (hU : Sl w bo m cap' (i64s V)) :
    Calls Try.prog 35 #[.slice ao n cap, .slice bo m cap'] w fun e w' => e = .returned (.bool true) ∧ Below w.heap.size w w' := by
  refine (rwSame_any V V _ _ _ _ _ _ _ hV hU).mono ?_
  rintro e w1 ⟨rfl, q, rfl⟩
  exact ⟨by rw [show decide (V = V) = true from decide_eq_true rfl], below_drewNs q⟩

theorem rSameQ (q : Rat) (v v2 : Value) (w : World) (h : RatC w v q) (h' : RatC w v2 q) :
    Calls Try.prog 59 #[v, v2] w fun e w' => e = .returned (.bool true) ∧ Below w.heap.size w w' := by
  refine (rSameC q q _ _ _ h h').mono ?_
  rintro e w1 ⟨rfl, hb⟩
  exact ⟨by rw [show decide (q = q) = true from decide_eq_true rfl], hb⟩

set_option maxRecDepth 100000 in
set_option maxHeartbeats 8000000 in
theorem walkBack (w : World) (v : List Int) (ao : Option Addr) (n cap : Nat) (hV : Sl w ao n cap (i64s v)) (hv : (ao = none → cap = 0) ∧ ∀ z ∈ v, -9223372036854775808 ≤ z ∧ z ≤ 9223372036854775807)
    (u : List Int) (bo : Option Addr) (m cap' : Nat) (hU : Sl w bo m cap' (i64s u)) (hu : (bo = none → cap' = 0) ∧ ∀ z ∈ u, -9223372036854775808 ≤ z ∧ z ≤ 9223372036854775807) (s : Int) {p : Prop} (_ : p) :
    Calls Try.prog 13 #[.slice ao n cap, .slice bo m cap', .int .i64 s] w fun e w' => e = .returned (.bool true) ∧ Below w.heap.size w w' := by
  clear hv hu
  obtain ⟨r, hr⟩ : ∃ r, s % 32 = r := ⟨_, rfl⟩
  have hr1 : 0 ≤ r ∧ r < 32 := by omega
  have Hr := hid hr
  clear hr
  go_enter Try.func13, Try.ntmps13
  go_wp2_with fail
  refine (mod_any s 32 (by decide) (by decide) _).mono ?_; rintro e w0 ⟨rfl, rfl⟩
  rw [Hr.out]
  go_wp2_with fail
  obtain ⟨S, hS⟩ : ∃ S, 1 + r = S := ⟨_, rfl⟩
  have h1 : 1 ≤ S := by omega
  have h2 : S ≤ 32 := by omega
  rw [hS]
  clear hS hr1 Hr
  refine (word20_any v S h1 h2 _ _ _ _ hV).mono ?_; rintro e w1 ⟨vo, vn, vc, rfl, sV, _, hb1⟩
  go_wp2_with fail
  refine (word20_any u S h1 h2 _ _ _ _ (hU.next hb1)).mono ?_; rintro e w2 ⟨uo, un, uc, rfl, sU, _, hb2⟩
  have sV := sV.next hb2
  obtain ⟨A, B, X, qA, eA, qB, eB, rR, eR, rX, eX, qX, eQ, cU, cX, fA, fB⟩ := back_facts (wordM v S 20) (wordM u S 20) S h1 h2 (wordM_mem h1) (wordM_len _ _ _) (wordM_mem h1) (wordM_len _ _ _)
  generalize wordM v S 20 = V at *
  generalize wordM u S 20 = U at *
  have hbel2 := below_chain hb1 hb2
  have QA := hid qA; have EA := hid eA; have QB := hid qB; have EB := hid eB; have RR := hid rR; have ER := hid eR; have RX := hid rX; have EX := hid eX; have QX := hid qX; have EQ := hid eQ; have CU := hid cU; have CX := hid cX
  clear qA eA qB eB rR eR rX eX qX eQ cU cX hV hU
  go_wp2_with fail
  refine (wRank_any V S _ _ _ _ sV).mono ?_
  rw [QA.out, EA.out]
  rintro e w3 ⟨v3, rfl, C1, hb3⟩
  obtain ⟨rb, ro, rn, rc, so, sn, sc, rfl⟩ := C1.shape
  have hG := Bk.start (below_chain hbel2 hb3) rfl (.bool rb) (.slice ro rn rc) (.slice so sn sc) 54
  have C1 := C1.next (below_alloc (.cells #[.bool rb, .slice ro rn rc, .slice so sn sc] 54))
  have sV := (sV.next hb3).next (below_alloc (.cells #[.bool rb, .slice ro rn rc, .slice so sn sc] 54))
  have sU := (sU.next hb3).next (below_alloc (.cells #[.bool rb, .slice ro rn rc, .slice so sn sc] 54))
  go_wp2_with fail
  refine (wRank_any U S _ _ _ _ sU).mono ?_
  rw [QB.out, EB.out]
  rintro e w4 ⟨v4, rfl, C2, hb4⟩
  obtain ⟨tb, to', tn, tc, xo, xn, xc, rfl⟩ := C2.shape
  have hb5 : Below w4.heap.size w4 (w4.alloc (.cells #[.bool tb, .slice to' tn tc, .slice xo xn xc] 54)) := below_alloc _
  have hH := Bk.start ((hG.next hb4).bel) rfl (.bool tb) (.slice to' tn tc) (.slice xo xn xc) 54
  have hG := (hG.next hb4).next hb5
  have C1 := (C1.next hb4).next hb5
  have C2 := C2.next hb5
  have sV := (sV.next hb4).next hb5
  have sU := (sU.next hb4).next hb5
  obtain ⟨g0, g1, g2⟩ := hG.c3
  go_wp2_with fail
  refine (wUnrank_any (A : Rat) S _ _ (C1.toV fA (by decide)) 257 fA (by decide)).mono ?_
  rw [RR.out, ER.out]
  rintro e w5 ⟨yo, yn, yc, rfl, sY, _, hb6⟩
  clear g0 g1 g2
  go_wp2_with fail
  refine (wNext_any V S _ _ _ _ (sV.next hb6)).mono ?_
  rw [RX.out, EX.out]
  rintro e w6 ⟨zo, zn, zc, rfl, sZ, _, hb7⟩
  have hG := (hG.next hb6).next hb7
  have hH := (hH.next hb6).next hb7
  have C1 := (C1.next hb6).next hb7
  have C2 := (C2.next hb6).next hb7
  have sV := (sV.next hb6).next hb7
  have sU := (sU.next hb6).next hb7
  have sY := sY.next hb7
  go_wp2_with fail
  refine (wRank_any X S _ _ _ _ sZ).mono ?_
  rw [QX.out, EQ.out]
  rintro e w7 ⟨v7, rfl, C3', hb8⟩
  obtain ⟨pb, po, pn, pc, qo, qn, qc, rfl⟩ := C3'.shape
  have hb9 : Below w7.heap.size w7 (w7.alloc (.cells #[.bool pb, .slice po pn pc, .slice qo qn qc] 54)) := below_alloc _
  have hI := Bk.start ((hG.next hb8).bel) rfl (.bool pb) (.slice po pn pc) (.slice qo qn qc) 54
  have hG := (hG.next hb8).next hb9
  have hH := (hH.next hb8).next hb9
  have C1 := (C1.next hb8).next hb9
  have C2 := (C2.next hb8).next hb9
  have C3' := C3'.next hb9
  have sV := (sV.next hb8).next hb9
  have sU := (sU.next hb8).next hb9
  have sY := (sY.next hb8).next hb9
  have sZ := (sZ.next hb8).next hb9
  clear hb9 hb8 hb7 hb6 hb5 hb4 hb3 hb2 hb1 hbel2
  go_upto_region 8 with fail
  generalize w7.alloc (.cells #[.bool pb, .slice po pn pc, .slice qo qn qc] 54) = W at *
  obtain ⟨d, hdd⟩ : ∃ d, rsg ((A : Rat) - (B : Rat)) = d := ⟨_, rfl⟩
  have HD := hid hdd
  clear hdd
  have hd2 : (d == d) = true := by simp
  have fOne : Fit 257 ((1 : Int) : Rat) := (fit_small (by decide) (by decide)).mono (by decide)
  have hd := (Below.refl W.heap.size W).drew
  have hS0 : (C3 w3.heap.size (.bool rb) (.slice ro rn rc) (.slice so sn sc) W.drew ∧ C3 w4.heap.size (.bool tb) (.slice to' tn tc) (.slice xo xn xc) W.drew ∧ C3 w7.heap.size (.bool pb) (.slice po pn pc) (.slice qo qn qc) W.drew) := ⟨hG.drew.c3, hH.drew.c3, hI.drew.c3⟩
  have hKp : ∀ w' w'', (C3 w3.heap.size (.bool rb) (.slice ro rn rc) (.slice so sn sc) w' ∧ C3 w4.heap.size (.bool tb) (.slice to' tn tc) (.slice xo xn xc) w' ∧ C3 w7.heap.size (.bool pb) (.slice po pn pc) (.slice qo qn qc) w') → Below w'.heap.size w' w'' → (C3 w3.heap.size (.bool rb) (.slice ro rn rc) (.slice so sn sc) w'' ∧ C3 w4.heap.size (.bool tb) (.slice to' tn tc) (.slice xo xn xc) w'' ∧ C3 w7.heap.size (.bool pb) (.slice po pn pc) (.slice qo qn qc) w'') := fun w' w'' h hb => ⟨h.1.next hb, h.2.1.next hb, h.2.2.next hb⟩
  refine wp_region_held_drew (S := (fun w' => C3 w3.heap.size (.bool rb) (.slice ro rn rc) (.slice so sn sc) w' ∧ C3 w4.heap.size (.bool tb) (.slice to' tn tc) (.slice xo xn xc) w' ∧ C3 w7.heap.size (.bool pb) (.slice po pn pc) (.slice qo qn qc) w')) (by kernel_rfl) (hS0) (fun hHeld => ?_)
  refine wpAnyH_ready (rs := [0]) (by kernel_rfl) (by simp) (AllReadyH.cons rfl (fun K hK => ?_) AllReadyH.nil)
  go_simp
  go_at_call 28; refine (wawake_any _).mono ?_; rintro e w1 ⟨rfl, hb1⟩
  go_wp2_with fail
  refine hK.out _ _ (hKp _ _ hHeld hb1) (fun hHeld => ?_)
  clear hK K
  try simp only [Act.put, List.setIfInBounds_toArray, List.set_cons_zero, List.set_cons_succ]
  refine held_take (i := 1) (d := 57) (v := ?_) rfl rfl (by kernel_rfl) (by kernel_rfl) (by kernel_rfl) (fun _ _ _ h => h) (by rfl) ?_ hHeld ?_
  rotate_left
  · intro w hSw; (try dsimp only at hSw); go_simp; with_reducible rfl
  try simp only [Act.put, List.setIfInBounds_toArray, List.set_cons_zero, List.set_cons_succ]
  refine held_take (i := 2) (d := 58) (v := ?_) rfl rfl (by kernel_rfl) (by kernel_rfl) (by kernel_rfl) (fun _ _ _ h => h) (by rfl) ?_ hHeld ?_
  rotate_left
  · intro w hSw; (try dsimp only at hSw); go_simp; with_reducible rfl
  try simp only [Act.put, List.setIfInBounds_toArray, List.set_cons_zero, List.set_cons_succ]
  refine held_take (i := 3) (d := 59) (v := ?_) rfl rfl (by kernel_rfl) (by kernel_rfl) (by kernel_rfl) (fun _ _ _ h => h) (by rfl) ?_ hHeld ?_
  rotate_left
  · intro w hSw; (try dsimp only at hSw); go_simp; with_reducible rfl
  try simp only [Act.put, List.setIfInBounds_toArray, List.set_cons_zero, List.set_cons_succ]
  refine held_take (i := 4) (d := 60) (v := ?_) rfl rfl (by kernel_rfl) (by kernel_rfl) (by kernel_rfl) (fun _ _ _ h => h) (by rfl) ?_ hHeld ?_
  rotate_left
  · intro w hSw; (try dsimp only at hSw); go_simp; with_reducible rfl
  try simp only [Act.put, List.setIfInBounds_toArray, List.set_cons_zero, List.set_cons_succ]
  refine held_take (i := 5) (d := 61) (v := ?_) rfl rfl (by kernel_rfl) (by kernel_rfl) (by kernel_rfl) (fun _ _ _ h => h) (by rfl) ?_ hHeld ?_
  rotate_left
  · intro w hSw; (try dsimp only at hSw); go_simp; with_reducible rfl
  try simp only [Act.put, List.setIfInBounds_toArray, List.set_cons_zero, List.set_cons_succ]
  refine held_take (i := 6) (d := 62) (v := ?_) rfl rfl (by kernel_rfl) (by kernel_rfl) (by kernel_rfl) (fun _ _ _ h => h) (by rfl) ?_ hHeld ?_
  rotate_left
  · intro w hSw; (try dsimp only at hSw); go_simp; with_reducible rfl
  try simp only [Act.put, List.setIfInBounds_toArray, List.set_cons_zero, List.set_cons_succ]
  refine held_take (i := 7) (d := 63) (v := ?_) rfl rfl (by kernel_rfl) (by kernel_rfl) (by kernel_rfl) (fun _ _ _ h => h) (by rfl) ?_ hHeld ?_
  rotate_left
  · intro w hSw; (try dsimp only at hSw); go_simp; with_reducible rfl
  try simp only [Act.put, List.setIfInBounds_toArray, List.set_cons_zero, List.set_cons_succ]
  refine held_take (i := 8) (d := 64) (v := ?_) rfl rfl (by kernel_rfl) (by kernel_rfl) (by kernel_rfl) (fun _ _ _ h => h) (by rfl) ?_ hHeld ?_
  rotate_left
  · intro w hSw; (try dsimp only at hSw); go_simp; with_reducible rfl
  try simp only [Act.put, List.setIfInBounds_toArray, List.set_cons_zero, List.set_cons_succ]
  refine held_take (i := 9) (d := 65) (v := ?_) rfl rfl (by kernel_rfl) (by kernel_rfl) (by kernel_rfl) (fun _ _ _ h => h) (by rfl) ?_ hHeld ?_
  rotate_left
  · intro w hSw; (try dsimp only at hSw); go_simp; with_reducible rfl
  try simp only [Act.put, List.setIfInBounds_toArray, List.set_cons_zero, List.set_cons_succ]
  refine held_take (i := 10) (d := 66) (v := ?_) rfl rfl (by kernel_rfl) (by kernel_rfl) (by kernel_rfl) (fun _ _ _ h => h) (by rfl) ?_ hHeld ?_
  rotate_left
  · intro w hSw; (try dsimp only at hSw); go_simp; with_reducible rfl
  try simp only [Act.put, List.setIfInBounds_toArray, List.set_cons_zero, List.set_cons_succ]
  refine held_take (i := 11) (d := 67) (v := ?_) rfl rfl (by kernel_rfl) (by kernel_rfl) (by kernel_rfl) (fun _ _ _ h => h) (by rfl) ?_ hHeld ?_
  rotate_left
  · intro w hSw; (try dsimp only at hSw); go_simp; with_reducible rfl
  try simp only [Act.put, List.setIfInBounds_toArray, List.set_cons_zero, List.set_cons_succ]
  refine held_take (i := 12) (d := 68) (v := ?_) rfl rfl (by kernel_rfl) (by kernel_rfl) (by kernel_rfl) (fun _ _ _ h => h) (by rfl) ?_ hHeld ?_
  rotate_left
  · intro w hSw; (try dsimp only at hSw); go_simp; with_reducible rfl
  try simp only [Act.put, List.setIfInBounds_toArray, List.set_cons_zero, List.set_cons_succ]
  refine held_take (i := 13) (d := 69) (v := ?_) rfl rfl (by kernel_rfl) (by kernel_rfl) (by kernel_rfl) (fun _ _ _ h => h) (by rfl) ?_ hHeld ?_
  rotate_left
  · intro w hSw; (try dsimp only at hSw); go_simp; with_reducible rfl
  try simp only [Act.put, List.setIfInBounds_toArray, List.set_cons_zero, List.set_cons_succ]
  refine held_take (i := 14) (d := 70) (v := ?_) rfl rfl (by kernel_rfl) (by kernel_rfl) (by kernel_rfl) (fun _ _ _ h => h) (by rfl) ?_ hHeld ?_
  rotate_left
  · intro w hSw; (try dsimp only at hSw); go_simp; with_reducible rfl
  try simp only [Act.put, List.setIfInBounds_toArray, List.set_cons_zero, List.set_cons_succ]
  refine held_take (i := 15) (d := 71) (v := ?_) rfl rfl (by kernel_rfl) (by kernel_rfl) (by kernel_rfl) (fun _ _ _ h => h) (by rfl) ?_ hHeld ?_
  rotate_left
  · intro w hSw; (try dsimp only at hSw); go_simp; with_reducible rfl
  try simp only [Act.put, List.setIfInBounds_toArray, List.set_cons_zero, List.set_cons_succ]
  refine held_take (i := 16) (d := 72) (v := ?_) rfl rfl (by kernel_rfl) (by kernel_rfl) (by kernel_rfl) (fun _ _ _ h => h) (by rfl) ?_ hHeld ?_
  rotate_left
  · intro w hSw; (try dsimp only at hSw); go_simp; with_reducible rfl
  try simp only [Act.put, List.setIfInBounds_toArray, List.set_cons_zero, List.set_cons_succ]
  refine held_take (i := 17) (d := 73) (v := ?_) rfl rfl (by kernel_rfl) (by kernel_rfl) (by kernel_rfl) (fun _ _ _ h => h) (by rfl) ?_ hHeld ?_
  rotate_left
  · intro w hSw; (try dsimp only at hSw); go_simp; with_reducible rfl
  try simp only [Act.put, List.setIfInBounds_toArray, List.set_cons_zero, List.set_cons_succ]
  refine held_take (i := 18) (d := 74) (v := ?_) rfl rfl (by kernel_rfl) (by kernel_rfl) (by kernel_rfl) (fun _ _ _ h => h) (by rfl) ?_ hHeld ?_
  rotate_left
  · intro w hSw; (try dsimp only at hSw); go_simp; with_reducible rfl
  try simp only [Act.put, List.setIfInBounds_toArray, List.set_cons_zero, List.set_cons_succ]
  refine held_take (i := 19) (d := 75) (v := ?_) rfl rfl (by kernel_rfl) (by kernel_rfl) (by kernel_rfl) (fun _ _ _ h => h) (by rfl) ?_ hHeld ?_
  rotate_left
  · intro w hSw; (try dsimp only at hSw); go_simp; with_reducible rfl
  try simp only [Act.put, List.setIfInBounds_toArray, List.set_cons_zero, List.set_cons_succ]
  refine held_take (i := 20) (d := 76) (v := ?_) rfl rfl (by kernel_rfl) (by kernel_rfl) (by kernel_rfl) (fun _ _ _ h => h) (by rfl) ?_ hHeld ?_
  rotate_left
  · intro w hSw; (try dsimp only at hSw); go_simp; with_reducible rfl
  try simp only [Act.put, List.setIfInBounds_toArray, List.set_cons_zero, List.set_cons_succ]
  refine held_take (i := 21) (d := 77) (v := ?_) rfl rfl (by kernel_rfl) (by kernel_rfl) (by kernel_rfl) (fun _ _ _ h => h) (by rfl) ?_ hHeld ?_
  rotate_left
  · intro w hSw; (try dsimp only at hSw); go_simp; with_reducible rfl
  try simp only [Act.put, List.setIfInBounds_toArray, List.set_cons_zero, List.set_cons_succ]
  refine held_take (i := 22) (d := 78) (v := ?_) rfl rfl (by kernel_rfl) (by kernel_rfl) (by kernel_rfl) (fun _ _ _ h => h) (by rfl) ?_ hHeld ?_
  rotate_left
  · intro w hSw; (try dsimp only at hSw); go_simp; with_reducible rfl
  try simp only [Act.put, List.setIfInBounds_toArray, List.set_cons_zero, List.set_cons_succ]
  refine held_take (i := 23) (d := 79) (v := ?_) rfl rfl (by kernel_rfl) (by kernel_rfl) (by kernel_rfl) (fun _ _ _ h => h) (by rfl) ?_ hHeld ?_
  rotate_left
  · intro w hSw; (try dsimp only at hSw); go_simp; with_reducible rfl
  try simp only [Act.put, List.setIfInBounds_toArray, List.set_cons_zero, List.set_cons_succ]
  refine wpAnyH_ready (rs := [24]) (by kernel_rfl) (by simp) (AllReadyH.cons rfl (fun K hK => ?_) AllReadyH.nil)
  go_simp
  go_at_call 35; refine (rwSameB V _ _ _ _ _ _ _ ((sY.next hd).next hb1) ((sV.next hd).next hb1)).mono ?_; rintro e w2 ⟨rfl, hb2⟩
  go_wp2_with fail
  refine hK.out _ _ (hKp _ _ hHeld hb2) (fun hHeld => ?_)
  clear hK K
  try simp only [Act.put, List.setIfInBounds_toArray, List.set_cons_zero, List.set_cons_succ]
  refine held_take (i := 25) (d := 81) (v := ?_) rfl rfl (by kernel_rfl) (by kernel_rfl) (by kernel_rfl) (fun _ _ _ h => h) (by rfl) ?_ hHeld ?_
  rotate_left
  · intro w hSw; (try dsimp only at hSw); go_simp; with_reducible rfl
  try simp only [Act.put, List.setIfInBounds_toArray, List.set_cons_zero, List.set_cons_succ]
  refine held_take (i := 26) (d := 82) (v := ?_) rfl rfl (by kernel_rfl) (by kernel_rfl) (by kernel_rfl) (fun _ _ _ h => h) (by rfl) ?_ hHeld ?_
  rotate_left
  · intro w hSw; (try dsimp only at hSw); go_simp; with_reducible rfl
  try simp only [Act.put, List.setIfInBounds_toArray, List.set_cons_zero, List.set_cons_succ]
  refine held_take (i := 27) (d := 83) (v := ?_) rfl rfl (by kernel_rfl) (by kernel_rfl) (by kernel_rfl) (fun _ _ _ h => h) (by rfl) ?_ hHeld ?_
  rotate_left
  · intro w hSw; (try dsimp only at hSw); go_simp; with_reducible rfl
  try simp only [Act.put, List.setIfInBounds_toArray, List.set_cons_zero, List.set_cons_succ]
  refine held_take (i := 28) (d := 84) (v := ?_) rfl rfl (by kernel_rfl) (by kernel_rfl) (by kernel_rfl) (fun _ _ _ h => h) (by rfl) ?_ hHeld ?_
  rotate_left
  · intro w hSw; (try dsimp only at hSw); go_simp; with_reducible rfl
  try simp only [Act.put, List.setIfInBounds_toArray, List.set_cons_zero, List.set_cons_succ]
  refine wpAnyH_ready (rs := [29]) (by kernel_rfl) (by simp) (AllReadyH.cons rfl (fun K hK => ?_) AllReadyH.nil)
  go_simp
  go_at_call 62; refine (rOf1_any 1 (by decide) (by decide) _).mono ?_; rintro e wa ⟨v5, rfl, C5, hb3⟩
  go_wp2_with fail
  refine hK.out _ _ (hKp _ _ hHeld hb3) (fun hHeld => ?_)
  clear hK K
  try simp only [Act.put, List.setIfInBounds_toArray, List.set_cons_zero, List.set_cons_succ]
  refine wpAnyH_ready (rs := [30]) (by kernel_rfl) (by simp) (AllReadyH.cons rfl (fun K hK => ?_) AllReadyH.nil)
  go_simp
  go_at_call 61; refine (rAdd_any (A : Rat) ((1 : Int) : Rat) _ _ _ (((((C1.next hd).next hb1).next hb2).next hb3).toV fA (by decide)) (C5.toV fOne (by decide)) 257 fA fOne (by decide)).mono ?_; rintro e wb ⟨v6, rfl, C6, hb4⟩
  go_wp2_with fail
  refine hK.out _ _ (hKp _ _ hHeld hb4) (fun hHeld => ?_)
  clear hK K
  try simp only [Act.put, List.setIfInBounds_toArray, List.set_cons_zero, List.set_cons_succ]
  refine wpAnyH_ready (rs := [31]) (by kernel_rfl) (by simp) (AllReadyH.cons rfl (fun K hK => ?_) AllReadyH.nil)
  go_simp
  go_at_call 59; refine (rSameQ _ _ _ _ (((((C3'.next hd).next hb1).next hb2).next hb3).next hb4) C6).mono ?_; rintro e wc ⟨rfl, hb5⟩
  go_wp2_with fail
  refine hK.out _ _ (hKp _ _ hHeld hb5) (fun hHeld => ?_)
  clear hK K
  try simp only [Act.put, List.setIfInBounds_toArray, List.set_cons_zero, List.set_cons_succ]
  refine held_take (i := 32) (d := 88) (v := ?_) rfl rfl (by kernel_rfl) (by kernel_rfl) (by kernel_rfl) (fun _ _ _ h => h) (by rfl) ?_ hHeld ?_
  rotate_left
  · intro w hSw; (try dsimp only at hSw); go_simp; with_reducible rfl
  try simp only [Act.put, List.setIfInBounds_toArray, List.set_cons_zero, List.set_cons_succ]
  refine held_take (i := 33) (d := 89) (v := ?_) rfl rfl (by kernel_rfl) (by kernel_rfl) (by kernel_rfl) (fun _ _ _ h => h) (by rfl) ?_ hHeld ?_
  rotate_left
  · intro w hSw; (try dsimp only at hSw); go_simp; with_reducible rfl
  try simp only [Act.put, List.setIfInBounds_toArray, List.set_cons_zero, List.set_cons_succ]
  refine held_take (i := 34) (d := 90) (v := ?_) rfl rfl (by kernel_rfl) (by kernel_rfl) (by kernel_rfl) (fun _ _ _ h => h) (by rfl) ?_ hHeld ?_
  rotate_left
  · intro w hSw; (try dsimp only at hSw); go_simp; with_reducible rfl
  try simp only [Act.put, List.setIfInBounds_toArray, List.set_cons_zero, List.set_cons_succ]
  refine held_take (i := 35) (d := 91) (v := ?_) rfl rfl (by kernel_rfl) (by kernel_rfl) (by kernel_rfl) (fun _ _ _ h => h) (by rfl) ?_ hHeld ?_
  rotate_left
  · intro w hSw; (try dsimp only at hSw); go_simp; with_reducible rfl
  try simp only [Act.put, List.setIfInBounds_toArray, List.set_cons_zero, List.set_cons_succ]
  refine held_take (i := 37) (d := 93) (v := ?_) rfl rfl (by kernel_rfl) (by kernel_rfl) (by kernel_rfl) (fun _ _ _ h => h) (by rfl) ?_ hHeld ?_
  rotate_left
  · intro w hSw; (try dsimp only at hSw); go_simp; with_reducible rfl
  try simp only [Act.put, List.setIfInBounds_toArray, List.set_cons_zero, List.set_cons_succ]
  refine held_take (i := 38) (d := 94) (v := ?_) rfl rfl (by kernel_rfl) (by kernel_rfl) (by kernel_rfl) (fun _ _ _ h => h) (by rfl) ?_ hHeld ?_
  rotate_left
  · intro w hSw; (try dsimp only at hSw); go_simp; with_reducible rfl
  try simp only [Act.put, List.setIfInBounds_toArray, List.set_cons_zero, List.set_cons_succ]
  refine wpAnyH_ready (rs := [36]) (by kernel_rfl) (by simp) (AllReadyH.cons rfl (fun K hK => ?_) AllReadyH.nil)
  go_simp
  go_at_call 33; refine (wCompare_any V U _ _ _ _ _ _ _ ((((((sV.next hd).next hb1).next hb2).next hb3).next hb4).next hb5) ((((((sU.next hd).next hb1).next hb2).next hb3).next hb4).next hb5)).mono ?_; rw [CU.out, HD.out]; rintro e wd ⟨rfl, hb6⟩
  go_wp2_with fail
  refine hK.out _ _ (hKp _ _ hHeld hb6) (fun hHeld => ?_)
  clear hK K
  try simp only [Act.put, List.setIfInBounds_toArray, List.set_cons_zero, List.set_cons_succ]
  refine wpAnyH_ready (rs := [39]) (by kernel_rfl) (by simp) (AllReadyH.cons rfl (fun K hK => ?_) AllReadyH.nil)
  go_simp
  go_at_call 63; refine (rCompare_any (A : Rat) (B : Rat) _ _ _ ((((((((C1.next hd).next hb1).next hb2).next hb3).next hb4).next hb5).next hb6).toV fA (by decide)) ((((((((C2.next hd).next hb1).next hb2).next hb3).next hb4).next hb5).next hb6).toV fB (by decide)) 257 fA fB (by decide)).mono ?_; rw [HD.out]; rintro e we ⟨rfl, hb7⟩
  go_wp2_with fail
  refine hK.out _ _ (hKp _ _ hHeld hb7) (fun hHeld => ?_)
  clear hK K
  try simp only [Act.put, List.setIfInBounds_toArray, List.set_cons_zero, List.set_cons_succ]
  refine held_take (i := 40) (d := 96) (v := ?_) rfl rfl (by kernel_rfl) (by kernel_rfl) (by kernel_rfl) (fun _ _ _ h => h) (by rfl) ?_ hHeld ?_
  rotate_left
  · intro w hSw; (try dsimp only at hSw); go_simp; with_reducible rfl
  try simp only [Act.put, List.setIfInBounds_toArray, List.set_cons_zero, List.set_cons_succ]
  refine held_take (i := 41) (d := 97) (v := ?_) rfl rfl (by kernel_rfl) (by kernel_rfl) (by kernel_rfl) (fun _ _ _ h => h) (by rfl) ?_ hHeld ?_
  rotate_left
  · intro w hSw; (try dsimp only at hSw); go_simp; with_reducible rfl
  try simp only [Act.put, List.setIfInBounds_toArray, List.set_cons_zero, List.set_cons_succ]
  refine held_take (i := 42) (d := 98) (v := ?_) rfl rfl (by kernel_rfl) (by kernel_rfl) (by kernel_rfl) (fun _ _ _ h => h) (by rfl) ?_ hHeld ?_
  rotate_left
  · intro w hSw; (try dsimp only at hSw); go_simp; with_reducible rfl
  try simp only [Act.put, List.setIfInBounds_toArray, List.set_cons_zero, List.set_cons_succ]
  refine held_take (i := 43) (d := 99) (v := ?_) rfl rfl (by kernel_rfl) (by kernel_rfl) (by kernel_rfl) (fun _ _ _ h => h) (by rfl) ?_ hHeld ?_
  rotate_left
  · intro w hSw; (try dsimp only at hSw); go_simp; with_reducible rfl
  try simp only [Act.put, List.setIfInBounds_toArray, List.set_cons_zero, List.set_cons_succ]
  refine held_take (i := 44) (d := 100) (v := ?_) rfl rfl (by kernel_rfl) (by kernel_rfl) (by kernel_rfl) (fun _ _ _ h => h) (by rfl) ?_ hHeld ?_
  rotate_left
  · intro w hSw; (try dsimp only at hSw); go_simp; with_reducible rfl
  try simp only [Act.put, List.setIfInBounds_toArray, List.set_cons_zero, List.set_cons_succ]
  refine wpAnyH_ready (rs := [45]) (by kernel_rfl) (by simp) (AllReadyH.cons rfl (fun K hK => ?_) AllReadyH.nil)
  go_simp
  go_at_call 33; refine (wCompare_any V X _ _ _ _ _ _ _ ((((((((sV.next hd).next hb1).next hb2).next hb3).next hb4).next hb5).next hb6).next hb7) ((((((((sZ.next hd).next hb1).next hb2).next hb3).next hb4).next hb5).next hb6).next hb7)).mono ?_; rw [CX.out]; rintro e wf ⟨rfl, hb8⟩
  go_wp2_with fail
  refine hK.out _ _ (hKp _ _ hHeld hb8) (fun hHeld => ?_)
  clear hK K
  try simp only [Act.put, List.setIfInBounds_toArray, List.set_cons_zero, List.set_cons_succ]
  refine held_take (i := 46) (d := 102) (v := ?_) rfl rfl (by kernel_rfl) (by kernel_rfl) (by kernel_rfl) (fun _ _ _ h => h) (by rfl) ?_ hHeld ?_
  rotate_left
  · intro w hSw; (try dsimp only at hSw); go_simp; with_reducible rfl
  try simp only [Act.put, List.setIfInBounds_toArray, List.set_cons_zero, List.set_cons_succ]
  refine held_take (i := 47) (d := 103) (v := ?_) rfl rfl (by kernel_rfl) (by kernel_rfl) (by kernel_rfl) (fun _ _ _ h => h) (by rfl) ?_ hHeld ?_
  rotate_left
  · intro w hSw; (try dsimp only at hSw); go_simp; with_reducible rfl
  try simp only [Act.put, List.setIfInBounds_toArray, List.set_cons_zero, List.set_cons_succ]
  refine held_take (i := 48) (d := 6) (v := ?_) rfl rfl (by kernel_rfl) (by kernel_rfl) (by kernel_rfl) (fun _ _ _ h => h) (by rfl) ?_ hHeld ?_
  rotate_left
  · intro w hSw; (try dsimp only at hSw); go_simp; with_reducible rfl
  try simp only [Act.put, List.setIfInBounds_toArray, List.set_cons_zero, List.set_cons_succ]
  refine wpAnyH_done (by kernel_rfl) ?_ _
  go_wp2_with fail
  go_ret
  exact ⟨rfl, ((((((((hG.drew.next hb1).next hb2).next hb3).next hb4).next hb5).next hb6).next hb7).next hb8).bel⟩

end Go.Proofs.Yteancfcmiiddiaa
