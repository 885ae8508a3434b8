/-
  The contracts of the reference's less and Same of vectors. No condition but sizes.
-/
import Derived.Test.YtcoidofchofljaaVecA
import Derived.Deep.RegionHeld3
namespace Go.Proofs.Ytcoidofchofljaa
open Go.RowKit
set_option linter.unusedSimpArgs false
set_option linter.unusedVariables false

/-- Three cells from offset o on. -/
abbrev E3 (B o : Nat) (x y z : Value) (w : World) : Prop := w.cell? ⟨B, o, none⟩ = some x ∧ w.cell? ⟨B, o + 1, none⟩ = some y ∧ w.cell? ⟨B, o + 2, none⟩ = some z
theorem E3.next {B o : Nat} {x y z : Value} {w w' : World} (h : E3 B o x y z w) (hb : Below w.heap.size w w') : E3 B o x y z w' := by
  have hlt := World.block_lt_of_cell? w _ h.1
  obtain ⟨hc, _⟩ := bcell hb
  exact ⟨(hc _ _ hlt).trans h.1, (hc _ _ hlt).trans h.2.1, (hc _ _ hlt).trans h.2.2⟩

theorem E3.low {N B o : Nat} {x y z : Value} {w w' : World} (h : E3 B o x y z w) (hB : B < N) (hb : Below N w w') : E3 B o x y z w' := by
  have hc : ∀ o, w'.cell? ⟨B, o, none⟩ = w.cell? ⟨B, o, none⟩ := fun o => World.cell?_of_block (hb.block B hB)
  exact ⟨(hc _).trans h.1, (hc _).trans h.2.1, (hc _).trans h.2.2⟩
theorem C3.low {N B : Nat} {x y z : Value} {w w' : World} (h : C3 B x y z w) (hB : B < N) (hb : Below N w w') : C3 B x y z w' := by
  have hc : ∀ o, w'.cell? ⟨B, o, none⟩ = w.cell? ⟨B, o, none⟩ := fun o => World.cell?_of_block (hb.block B hB)
  exact ⟨(hc _).trans h.1, (hc _).trans h.2.1, (hc _).trans h.2.2⟩
theorem Vec.lt {R : World → Value → Rat → Prop} {w : World} {b o n cap : Nat} {F : V} (h : Vec R w (some ⟨b, o, none⟩) n cap F) {i : Nat} (hi : i < n) : b < w.heap.size := by
  obtain ⟨b', o', e, s, xo, xn, xc, yo, yn, yc, ⟨t, _⟩, _⟩ := h.2.2.2 i hi
  injection e with e
  injection e with e1 _
  subst e1
  exact World.block_lt_of_cell? w _ t

theorem Bk.low {N G : Nat} {w w' w'' : World} {x y z : Value} (h : Bk w G x y z w') (hG : G < N) (hN : w.heap.size ≤ N) (hb : Below N w' w'') : Bk w G x y z w'' :=
  ⟨by obtain ⟨T, hT⟩ := h.heap; exact ⟨T, by rw [hb.block G hG]; exact hT⟩, h.ge, h.bel.trans (hb.mono hN)⟩

theorem sameE_any (q r : Rat) (hqr : q = r) (v v2 : Value) (w : World) (h : RatC w v q) (h' : RatC w v2 r) :
    Calls Try.prog 31 #[v, v2] w fun e w' => e = .returned (.bool true) ∧ Below w.heap.size w w' := by
  subst hqr
  refine (rSameC q q v v2 w h h').mono ?_
  rintro e w' ⟨rfl, hb⟩
  exact ⟨retB (by simp), hb⟩

set_option maxHeartbeats 2000000 in
theorem sameV_any (n : Nat) (F G : V) (hFG : ∀ i, i < n → F i = G i) (ao : Option Addr) (cap : Nat) (bo : Option Addr) (cap' : Nat) (w : World) (h : Vec RatC w ao n cap F) (h' : Vec RatC w bo n cap' G) :
    Calls Try.prog 12 #[.slice ao n cap, .slice bo n cap'] w fun e w' => e = .returned (.bool true) ∧ Below w.heap.size w w' := by
  have hb := h.bound
  have HFG := hid hFG
  clear hFG
  have hnn : ((n : Int) != n) = false := by simp
  go_enter Try.func12, Try.ntmps12
  go_wp2_with fail
  go_loopw [5] (fun iv wr => ∃ k : Nat, k ≤ n ∧ iv = .int .i64 k ∧ Below w.heap.size w wr) (fun i _ => n - (intOf i).toNat)
  case atStart => exact ⟨0, by omega, rfl, Below.refl _ _⟩
  case round =>
    obtain ⟨k, hk, rfl, hbel⟩ := hrel
    by_cases hlt : k < n
    · obtain ⟨b, o, rfl, s, xo, xn, xc, yo, yn, yc, t1, t2, t3, hr⟩ := (h.nextC hbel).get hlt
      obtain ⟨b', o', rfl, s', xo', xn', xc', yo', yn', yc', u1, u2, u3, hr'⟩ := (h'.nextC hbel).get hlt
      have hd := (Below.refl wr.heap.size wr).drew
      have e1 : E3 b (o + k * 3) (.bool s) (.slice xo xn xc) (.slice yo yn yc) wr := ⟨t1, t2, t3⟩
      have e2 : E3 b' (o' + k * 3) (.bool s') (.slice xo' xn' xc') (.slice yo' yn' yc') wr := ⟨u1, u2, u3⟩
      have hS0 : E3 b (o + k * 3) (.bool s) (.slice xo xn xc) (.slice yo yn yc) wr.drew ∧ E3 b' (o' + k * 3) (.bool s') (.slice xo' xn' xc') (.slice yo' yn' yc') wr.drew := ⟨e1.next hd, e2.next hd⟩
      have hK : ∀ w' w'', (E3 b (o + k * 3) (.bool s) (.slice xo xn xc) (.slice yo yn yc) w' ∧ E3 b' (o' + k * 3) (.bool s') (.slice xo' xn' xc') (.slice yo' yn' yc') w') → Below w'.heap.size w' w'' → (E3 b (o + k * 3) (.bool s) (.slice xo xn xc) (.slice yo yn yc) w'' ∧ E3 b' (o' + k * 3) (.bool s') (.slice xo' xn' xc') (.slice yo' yn' yc') w'') := fun w' w'' h hb => ⟨h.1.next hb, h.2.next hb⟩
      clear e1 e2 t1 t2 t3 u1 u2 u3
      go_wp2_with fail
      go_region_held3 (fun w' => E3 b (o + k * 3) (.bool s) (.slice xo xn xc) (.slice yo yn yc) w' ∧ E3 b' (o' + k * 3) (.bool s') (.slice xo' xn' xc') (.slice yo' yn' yc') w')
        (repeat (first | with_reducible assumption | with_reducible refine hK _ _ ?_ hb2))
        (first | (go_at_call 31; refine (sameE_any (F k) (G k) (HFG.out k hlt) _ _ _ (hr.next hd) (hr'.next hd)).mono ?_; rintro e w2 ⟨rfl, hb2⟩))
      have hbel2 : Below w.heap.size w w2 := below_chain (below_chain hbel hd) hb2
      go_wp2_with fail
      go_roundw
      case rel => exact ⟨k + 1, by omega, by go_num, hbel2⟩
      case measure => simp [intOf]; omega
    · obtain rfl : k = n := by omega
      go_wp2_with fail
      go_ret
      exact ⟨rfl, hbel⟩

/-- v less c times w. -/
def lessV (F G : V) (c : Rat) : V := fun i => F i - G i * c

set_option maxHeartbeats 4000000 in
set_option maxRecDepth 100000 in
theorem less_any (n m : Nat) (hnm : n ≤ m) (hn : n ≤ 100000) (F G : V) (c : Rat) (v : Value) (ao : Option Addr) (cap : Nat) (bo : Option Addr) (cap' : Nat) (w : World) (h : Vec RatV w ao n cap F) (h' : Vec RatV w bo m cap' G) (hc : RatV w v c)
    (K : Nat) (hF : ∀ i, i < n → Fit K (F i)) (hG : ∀ i, i < n → Fit K (G i)) (hfc : Fit K c) (hK : K ≤ 1000000) :
    Calls Try.prog 63 #[.slice ao n cap, .slice bo m cap', v] w (VecOut w n (lessV F G c)) := by
  have hb := h.bound
  have hb' := h'.bound
  have HF := hid hF
  have HG := hid hG
  clear hF hG
  obtain ⟨cs, co, cn, cc, eo, en, ec, rfl⟩ := hc.shape
  have hX := Bk.start (Below.refl w.heap.size w) rfl (.bool cs) (.slice co cn cc) (.slice eo en ec) 39
  go_enter Try.func63, Try.ntmps63
  go_wp2_with fail
  have hW1 : w.heap.size + 1 ≤ (w.alloc (.cells #[.bool cs, .slice co cn cc, .slice eo en ec] 39)).heap.size := by simp
  have hB1 : Below w.heap.size w (w.alloc (.cells #[.bool cs, .slice co cn cc, .slice eo en ec] 39)) := below_alloc _
  go_loopw [7, 8] (fun ov iv wr => ∃ k : Nat, k ≤ n ∧ iv = .int .i64 k ∧ VOwn wr (w.heap.size + 1) ov k (lessV F G c) ∧ Bk w w.heap.size (.bool cs) (.slice co cn cc) (.slice eo en ec) wr ∧ w.heap.size + 1 ≤ wr.heap.size) (fun _ i _ => n - (intOf i).toNat)
  case atStart => exact ⟨0, by omega, rfl, VOwn.nil _ _ _, hX, hW1⟩
  case round =>
    obtain ⟨k, hk, rfl, hown, hbk, hsz⟩ := hrel
    have hbel := hbk.bel
    by_cases hlt : k < n
    · obtain ⟨b, o, rfl, s, xo, xn, xc, yo, yn, yc, t1, t2, t3, hr⟩ := (h.nextV hbel).get hlt
      obtain ⟨b', o', rfl, s', xo', xn', xc', yo', yn', yc', u1, u2, u3, hr'⟩ := (h'.nextV hbel).get (show k < m by omega)
      have hcw := hc.next hbel
      have hd := (Below.refl wr.heap.size wr).drew
      have e1 : E3 b (o + k * 3) (.bool s) (.slice xo xn xc) (.slice yo yn yc) wr := ⟨t1, t2, t3⟩
      have e2 : E3 b' (o' + k * 3) (.bool s') (.slice xo' xn' xc') (.slice yo' yn' yc') wr := ⟨u1, u2, u3⟩
      have e3 := hbk.c3
      have hkm : k < m := by omega
      have hS0 : E3 b (o + k * 3) (.bool s) (.slice xo xn xc) (.slice yo yn yc) wr.drew ∧ E3 b' (o' + k * 3) (.bool s') (.slice xo' xn' xc') (.slice yo' yn' yc') wr.drew ∧ C3 w.heap.size (.bool cs) (.slice co cn cc) (.slice eo en ec) wr.drew := ⟨e1.next hd, e2.next hd, e3.next hd⟩
      have hK : ∀ w' w'', (E3 b (o + k * 3) (.bool s) (.slice xo xn xc) (.slice yo yn yc) w' ∧ E3 b' (o' + k * 3) (.bool s') (.slice xo' xn' xc') (.slice yo' yn' yc') w' ∧ C3 w.heap.size (.bool cs) (.slice co cn cc) (.slice eo en ec) w') → Below w'.heap.size w' w'' → (E3 b (o + k * 3) (.bool s) (.slice xo xn xc) (.slice yo yn yc) w'' ∧ E3 b' (o' + k * 3) (.bool s') (.slice xo' xn' xc') (.slice yo' yn' yc') w'' ∧ C3 w.heap.size (.bool cs) (.slice co cn cc) (.slice eo en ec) w'') := fun w' w'' h hb => ⟨h.1.next hb, h.2.1.next hb, h.2.2.next hb⟩
      have lb : b < w.heap.size + 1 := Nat.lt_succ_of_lt (h.lt hlt)
      have lb' : b' < w.heap.size + 1 := Nat.lt_succ_of_lt (h'.lt hkm)
      have hL : ∀ w' w'', (E3 b (o + k * 3) (.bool s) (.slice xo xn xc) (.slice yo yn yc) w' ∧ E3 b' (o' + k * 3) (.bool s') (.slice xo' xn' xc') (.slice yo' yn' yc') w' ∧ C3 w.heap.size (.bool cs) (.slice co cn cc) (.slice eo en ec) w') → Below (w.heap.size + 1) w' w'' → (E3 b (o + k * 3) (.bool s) (.slice xo xn xc) (.slice yo yn yc) w'' ∧ E3 b' (o' + k * 3) (.bool s') (.slice xo' xn' xc') (.slice yo' yn' yc') w'' ∧ C3 w.heap.size (.bool cs) (.slice co cn cc) (.slice eo en ec) w'') := fun w' w'' h hb => ⟨h.1.low lb hb, h.2.1.low lb' hb, h.2.2.low (Nat.lt_succ_self _) hb⟩
      clear e1 e2 e3 t1 t2 t3 u1 u2 u3
      go_wp2_with fail
      go_region_held3 (fun w' => E3 b (o + k * 3) (.bool s) (.slice xo xn xc) (.slice yo yn yc) w' ∧ E3 b' (o' + k * 3) (.bool s') (.slice xo' xn' xc') (.slice yo' yn' yc') w' ∧ C3 w.heap.size (.bool cs) (.slice co cn cc) (.slice eo en ec) w')
        (repeat (first | with_reducible assumption | with_reducible refine hK _ _ ?_ hb2 | with_reducible refine hK _ _ ?_ hb3 | with_reducible refine hL _ _ ?_ hb4 | with_reducible refine hK _ _ ?_ (below_alloc _)))
        (first
          | (go_at_call 33; refine (rMul_any (G k) c _ _ _ (hr'.next hd) (hcw.next hd) K (HG.out k hlt) hfc (by omega)).mono ?_; rintro e w2 ⟨v2, rfl, C2, hb2⟩)
          | (go_at_call 83; refine (rSub_any (F k) (G k * c) _ _ _ ((hr.next hd).next hb2) (C2.toV (fit_mul (HG.out k hlt) hfc) (by omega)) (K + K) ((HF.out k hlt).mono (by omega)) (fit_mul (HG.out k hlt) hfc) (by omega)).mono ?_; rintro e w3 ⟨v3, rfl, C3', hb3⟩; obtain ⟨rb, ro, rn, rc, so, sn, sc, rfl⟩ := C3'.shape)
          | (refine step_appV (by rfl) (.tmp 15) (.tmp 27) (by rfl) (w.heap.size + 1) _ k (lessV F G c) (by rfl) ((((hown.next hd).next hb2).next hb3).next (below_alloc _)) w3.heap.size 1 (by rfl) rb ro rn rc so sn sc ⟨by simp [go_sem], by simp [go_sem], by simp [go_sem]⟩ (F k - G k * c) (C3'.next (below_alloc _)) (by omega) (by have h1 := hd.size; have h2 := hb2.size; have h3 := hb3.size; simp only [World.size_alloc]; omega) ?_; intro v' w4 hown4 hg4 hb4 _))
      have hown5 : VOwn w4 (w.heap.size + 1) v' (k + 1) (lessV F G c) := hown4.congr (fun i hi => by
        by_cases hik : i = k
        · subst hik; rw [updV_at]; rfl
        · rw [updV_ne _ _ hik])
      have z1 := hd.size
      have z2 := hb2.size
      have z3 := hb3.size
      have z4 := hb4.size
      have hbk4 : Bk w w.heap.size (.bool cs) (.slice co cn cc) (.slice eo en ec) w4 := ((((hbk.next hd).next hb2).next hb3).new _).low (Nat.lt_succ_self _) (by omega) hb4
      have hsz4 : w.heap.size + 1 ≤ w4.heap.size := by simp only [World.size_alloc] at z4; omega
      clear hown4 hown hbk
      go_wp2_with fail
      go_roundw
      case rel => exact ⟨k + 1, by omega, by go_num, hown5, hbk4, hsz4⟩
      case measure => simp [intOf]; omega
    · obtain rfl : k = n := by omega
      go_wp2_with fail
      go_ret
      exact ⟨_, rfl, hown.mono (by omega), hbel⟩

end Go.Proofs.Ytcoidofchofljaa
