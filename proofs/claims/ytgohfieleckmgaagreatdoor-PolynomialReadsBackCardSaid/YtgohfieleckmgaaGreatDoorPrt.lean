/-
  The contract of the reference's Take (package weightedref02). No condition but sizes.
-/
import Derived.Test.YtgohfieleckmgaaGreatDoorPrv
import Derived.Test.YtgohfieleckmgaaGreatDoorPof
import Derived.Test.YtgohfieleckmgaaGreatDoorPapS
namespace Go.Proofs.YtgohfieleckmgaaGreatDoor
open Go.RowKit
set_option linter.unusedSimpArgs false
set_option linter.unusedVariables false

theorem lst_valid {l : List Mr} {P : Pl} (hv : vlB l = true) (hp : EqP (polOf l) P) : (lst P).map toM = l := by rw [← lst_congr hp]; exact polOf_lst hv
theorem rdP_append (a b : List Mp) : rdP (a ++ b) = rdP a ++ rdP b := by simp [rdP]
theorem take_step {l : List Mr} {i : Nat} {m : Mr} (h : l[i]? = some m) : l.take (i + 1) = l.take i ++ [m] := by
  obtain ⟨hi, rfl⟩ := List.getElem?_eq_some_iff.1 h
  rw [List.take_succ_eq_append_getElem hi]
/-- What has been taken is the polynomial. -/
theorem POwn.polC {w : World} {base n : Nat} {v : Value} {ps : List Mp} {P : Pl} (h : POwn w base v n ps) (hr : rdP ps = (lst P).map toM) : ∃ ao cap, v = .slice ao (lst P).length cap ∧ PolC w ao cap P := by
  obtain ⟨ao, cap, rfl, hp⟩ := h.pol
  have hn : (lst P).length = n := by have := congrArg List.length hr; rw [rdP, List.length_map, List.length_map] at this; rw [← this]; exact h.2.1
  refine ⟨ao, cap, by rw [hn], ?_⟩
  unfold PolC
  rw [hn, ← hr]; exact hp

set_option maxRecDepth 10000 in
set_option maxHeartbeats 4000000 in
theorem rPTake_any (P : Pl) (v : Value) (w : World) (h : PolV w v P) : Calls Tryz.prog 56 #[v] w (PolOut w P) := by
  obtain ⟨ao, n, cap, l, rfl, hl, hp⟩ := h
  have hva := hid (rPValid_any ao n cap l w hl)
  cases hv : vlB l with
  | true =>
    rw [hv] at hva
    have hlst := hid (lst_valid hv hp)
    have hn : n ≤ 1000 := by
      have h1 := congrArg List.length hlst.out
      rw [List.length_map, hl.1] at h1
      have := len_lst P
      omega
    have hlen := hid hl.len
    clear hv hp
    go_enter Tryz.func56, Tryz.ntmps56
    go_wp2_with fail
    refine hva.out.mono ?_; rintro e w1 ⟨rfl, hb1⟩
    have Hl := hid hl
    have hl1 := hl.nextV hb1
    have hbel1 := hb1
    clear hl hva
    go_wp2_with fail
    go_loopw [3, 4] (fun ov iv wr => ∃ (v : Value) (i : Nat) (ps : List Mp), v = ov ∧ i ≤ n ∧ iv = .int .i64 i ∧ POwn wr w.heap.size v i ps ∧ rdP ps = l.take i ∧ Pol RatV wr ao n cap l ∧ Below w.heap.size w wr) (fun _ iv _ => n - (intOf iv).toNat)
    case atStart => exact ⟨_, 0, [], rfl, by omega, rfl, POwn.nil _ _, rfl, hl1, hbel1⟩
    case round =>
      clear hl1 hbel1 hb1
      obtain ⟨v, i, ps, rfl, hi, rfl, hown, hrd, hlr, hbel⟩ := hrel
      by_cases hlt : i < n
      · obtain ⟨b, o, x, y, z, s, xo, xn, xc, yo, yn, yc, q, hm, rfl, hx, hr⟩ := hlr.at_ hlt
        have hdd : Below wr.heap.size wr wr.drew := (Below.refl _ _).drew
        have hG : H6 b (o + i * 6) x y z s xo xn xc yo yn yc wr.drew := hx.h6.next hdd
        have hr1 := hr.next hdd
        have hown1 := hown.next hdd
        have hlr1 := hlr.nextV hdd
        have hbel1 := below_chain hbel hdd
        have hM := hid hm
        have hRd := hid hrd
        have i0 : (0 : Int) ≤ (i : Int) := by omega
        have i1 : (i : Int) < (n : Int) := by omega
        clear hr hx hown hlr hrd hm
        go_wp2_with fail
        refine wp_region_D (fun w' => H6 b (o + i * 6) x y z s xo xn xc yo yn yc w') [14, 15] (by kernel_rfl) ?_
        refine wpAnyD_take (i := 0) (v := ?_) rfl (by kernel_rfl) (by kernel_rfl) (by kernel_rfl) (by kernel_rfl) (fun _ _ _ h => h) (Or.inl ⟨by rfl, ?_⟩) hG ?_
        rotate_left
        · intro w _; first | (go_simp; done) | (go_simp; with_reducible rfl)
        refine wpAnyD_take (i := 1) (v := ?_) rfl (by kernel_rfl) (by kernel_rfl) (by kernel_rfl) (by kernel_rfl) (fun _ _ _ h => h) (Or.inl ⟨by rfl, ?_⟩) hG ?_
        rotate_left
        · intro w _; first | (go_simp; done) | (go_simp; with_reducible rfl)
        refine wpAnyD_take (i := 2) (v := ?_) rfl (by kernel_rfl) (by kernel_rfl) (by kernel_rfl) (by kernel_rfl) (fun _ _ _ h => h) (Or.inl ⟨by rfl, ?_⟩) hG ?_
        rotate_left
        · intro w _; first | (go_simp; done) | (go_simp; with_reducible rfl)
        refine wpAnyD_take (i := 3) (v := ?_) rfl (by kernel_rfl) (by kernel_rfl) (by kernel_rfl) (by kernel_rfl) (fun _ _ _ h => h) (Or.inl ⟨by rfl, ?_⟩) hG ?_
        rotate_left
        · intro w _; first | (go_simp; done) | (go_simp; with_reducible rfl)
        refine wpAnyD_take (i := 4) (v := ?_) rfl (by kernel_rfl) (by kernel_rfl) (by kernel_rfl) (by kernel_rfl) (fun _ _ _ h => h) (Or.inl ⟨by rfl, ?_⟩) hG ?_
        rotate_left
        · intro w _; first | (go_simp; done) | (go_simp; with_reducible rfl)
        refine wpAnyD_take (i := 5) (v := ?_) rfl (by kernel_rfl) (by kernel_rfl) (by kernel_rfl) (by kernel_rfl) (fun _ _ _ h => h) (Or.inl ⟨by rfl, ?_⟩) hG ?_
        rotate_left
        · intro w hw; obtain ⟨⟨s1', s2', s3'⟩, s4', s5', s6'⟩ := hw; first | (go_simp; done) | (go_simp; with_reducible rfl)
        refine wpAnyD_take (i := 6) (v := ?_) rfl (by kernel_rfl) (by kernel_rfl) (by kernel_rfl) (by kernel_rfl) (fun _ _ _ h => h) (Or.inl ⟨by rfl, ?_⟩) hG ?_
        rotate_left
        · intro w _; first | (go_simp; done) | (go_simp; with_reducible rfl)
        refine wpAnyD_take (i := 7) (v := ?_) rfl (by kernel_rfl) (by kernel_rfl) (by kernel_rfl) (by kernel_rfl) (fun _ _ _ h => h) (Or.inl ⟨by rfl, ?_⟩) hG ?_
        rotate_left
        · intro w _; first | (go_simp; done) | (go_simp; with_reducible rfl)
        refine wpAnyD_take (i := 8) (v := ?_) rfl (by kernel_rfl) (by kernel_rfl) (by kernel_rfl) (by kernel_rfl) (fun _ _ _ h => h) (Or.inl ⟨by rfl, ?_⟩) hG ?_
        rotate_left
        · intro w _; first | (go_simp; done) | (go_simp; with_reducible rfl)
        refine wpAnyD_take (i := 9) (v := ?_) rfl (by kernel_rfl) (by kernel_rfl) (by kernel_rfl) (by kernel_rfl) (fun _ _ _ h => h) (Or.inl ⟨by rfl, ?_⟩) hG ?_
        rotate_left
        · intro w _; first | (go_simp; done) | (go_simp; with_reducible rfl)
        refine wpAnyD_take (i := 10) (v := ?_) rfl (by kernel_rfl) (by kernel_rfl) (by kernel_rfl) (by kernel_rfl) (fun _ _ _ h => h) (Or.inl ⟨by rfl, ?_⟩) hG ?_
        rotate_left
        · intro w hw; obtain ⟨⟨s1', s2', s3'⟩, s4', s5', s6'⟩ := hw; first | (go_simp; done) | (go_simp; with_reducible rfl)
        refine wpAnyD_one (i := 11) (by kernel_rfl) rfl (fun KK hKK => ?_)
        go_simp
        go_at_call 75
        refine (rTake_any q _ _ hr1).mono ?_; rintro e w2 ⟨v2, rfl, C2, hb2⟩
        obtain ⟨t, to', tn, tc, uo, un, uc, rfl⟩ := C2.shape6
        have hG2 := hG.next hb2
        have hown2 := hown1.next hb2
        have hlr2 := hlr1.nextV hb2
        have hbel2 := below_chain hbel1 hb2
        clear hr1 hown1 hlr1
        refine hKK _ _ ⟨fun _ => hG2, ?_⟩; clear hKK KK
        refine wpAnyD_take (i := 12) (v := ?_) rfl (by kernel_rfl) (by kernel_rfl) (by kernel_rfl) (by kernel_rfl) (fun _ _ _ h => h) (Or.inl ⟨by rfl, ?_⟩) hG2 ?_
        rotate_left
        · intro w _; first | (go_simp; done) | (go_simp; with_reducible rfl)
        refine wpAnyD_one (i := 13) (by kernel_rfl) rfl (fun KK hKK => ?_)
        have hbN : Below w2.heap.size w2 (w2.alloc (.cells #[.int .i64 x, .int .i64 y, .int .i64 z, .bool t, .slice to' tn tc, .slice uo un uc] 59)) := below_alloc _
        have hX3 := Hex.fresh w2 ((x, y, z), t, (to', tn, tc), (uo, un, uc)) 59
        have hown3 := hown2.next hbN
        have hlr3 := hlr2.nextV hbN
        have hC3 := C2.next hbN
        have hbel3 := below_chain hbel2 hbN
        go_simp
        refine hKK _ _ ⟨fun _ => hG2.next hbN, ?_⟩; clear hKK KK
        refine wpAnyD_one (i := 14) (by kernel_rfl) rfl (fun KK hKK => ?_)
        rw [if_pos (by rfl)]
        refine op_appP (.tmp 14) (.tmp 27) rfl w.heap.size v i ps rfl hown3 w2.heap.size 0 1 1 rfl [(((x, y, z), t, (to', tn, tc), (uo, un, uc)), q)] rfl (by decide) (hex_one hX3) (fun p hp => by obtain rfl := List.mem_singleton.1 hp; exact hC3) (by omega) (by decide) hbel3.size ?_
        intro v' w5 hown5 hg5 hb5 _
        refine hKK _ _ ⟨fun hn => absurd (by simp) hn, ?_⟩; clear hKK KK
        refine wpAnyD_one (i := 15) (by kernel_rfl) rfl (fun KK hKK => ?_)
        go_simp
        refine hKK _ _ ⟨fun hn => absurd (by simp) hn, ?_⟩; clear hKK KK
        refine wpAnyD_done (by kernel_rfl) ?_ _
        go_simp
        have hrd5 : Hid (rdP (ps ++ [(((x, y, z), t, (to', tn, tc), (uo, un, uc)), q)]) = l.take (i + 1)) := hid (by rw [rdP_append, hRd.out, take_step hM.out]; rfl)
        have hbel5 := hbel3.trans hb5
        have hlr5 := Hl.out.nextV hbel5
        clear hlr2 hown2 hown3 hlr3 hC3 C2
        go_wp2_with fail
        go_roundw
        case rel => exact ⟨v', i + 1, _, rfl, by omega, by simp, hown5, hrd5.out, hlr5, hbel5⟩
        case measure => simp [intOf]; omega
      · obtain rfl : i = n := by omega
        have i1 : ¬ (i : Int) < (i : Int) := by omega
        obtain ⟨ao', cap', rfl, hres⟩ := hown.polC (P := P) (by rw [hrd, hlst.out, List.take_of_length_le (by rw [hlen.out]; omega)])
        clear hown hrd
        go_wp2_with fail
        go_ret
        exact ⟨ao', cap', rfl, hres, hbel⟩
  | false =>
    rw [hv] at hva
    have hres := hid (fun W : World => polC_no (w := W) hv hp)
    clear hl hv
    go_enter Tryz.func56, Tryz.ntmps56
    go_wp2_with fail
    refine hva.out.mono ?_; rintro e w1 ⟨rfl, hb1⟩
    go_wp2_with fail
    go_ret
    obtain ⟨h1, h2⟩ := hres.out w1
    exact ⟨none, 0, by rw [h1]; rfl, h2, hb1⟩
end Go.Proofs.YtgohfieleckmgaaGreatDoor
