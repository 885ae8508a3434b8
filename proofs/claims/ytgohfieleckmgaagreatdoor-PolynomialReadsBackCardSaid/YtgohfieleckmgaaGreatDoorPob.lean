/-
  The contracts of Valid and value of package polynomial. No condition but sizes.
-/
import Derived.Test.YtgohfieleckmgaaGreatDoorPoa
import Derived.Test.YtgohfieleckmgaaGreatDoorDrw
namespace Go.Proofs.YtgohfieleckmgaaGreatDoor
open Go.RowKit
set_option linter.unusedSimpArgs false
set_option linter.unusedVariables false

/-- Three exponents from offset o on. -/
abbrev H3 (B o : Nat) (x y z : Int) (w : World) : Prop := Cl B o (.int .i64 x) w ∧ Cl B (o + 1) (.int .i64 y) w ∧ Cl B (o + 2) (.int .i64 z) w
/-- A monomial from offset o on. -/
abbrev H6 (B o : Nat) (x y z : Int) (s : Bool) (xo : Option Addr) (xn xc : Nat) (yo : Option Addr) (yn yc : Nat) (w : World) : Prop :=
  H3 B o x y z w ∧ Cl B (o + 3) (.bool s) w ∧ Cl B (o + 4) (.slice xo xn xc) w ∧ Cl B (o + 5) (.slice yo yn yc) w
section
variable {B o : Nat} {x y z : Int} {s : Bool} {xo : Option Addr} {xn xc : Nat} {yo : Option Addr} {yn yc : Nat} {w w' : World}
theorem H3.next (h : H3 B o x y z w) (hb : Below w.heap.size w w') : H3 B o x y z w' := ⟨Cl.next h.1 hb, Cl.next h.2.1 hb, Cl.next h.2.2 hb⟩
theorem H6.next (h : H6 B o x y z s xo xn xc yo yn yc w) (hb : Below w.heap.size w w') : H6 B o x y z s xo xn xc yo yn yc w' := ⟨H3.next h.1 hb, Cl.next h.2.1 hb, Cl.next h.2.2.1 hb, Cl.next h.2.2.2 hb⟩
theorem Hex.h6 (h : Hex w B o ((x, y, z), s, (xo, xn, xc), (yo, yn, yc))) : H6 B o x y z s xo xn xc yo yn yc w := by
  obtain ⟨h0, h1, h2, h3, h4, h5⟩ := h.cells
  exact ⟨⟨h0, h1, h2⟩, h3, h4, h5⟩
end
theorem H6.fresh (w : World) (x y z : Int) (s : Bool) (xo : Option Addr) (xn xc : Nat) (yo : Option Addr) (yn yc : Nat) (t : TypeId) :
    H6 w.heap.size 0 x y z s xo xn xc yo yn yc (w.alloc (.cells #[.int .i64 x, .int .i64 y, .int .i64 z, .bool s, .slice xo xn xc, .slice yo yn yc] t)) :=
  (Hex.fresh w ((x, y, z), s, (xo, xn, xc), (yo, yn, yc)) t).h6

theorem vlI_eq {l : List Mr} {i : Nat} {m : Mr} (h : l[i]? = some m) : vlI l i = (fitsB m.1 m.2 && (decide (i = 0) || match l[i - 1]? with | none => true | some n => gtI n.1 m.1)) := by
  unfold vlI fitsB; rw [h]; dsimp only; rw [Bool.and_assoc]; rfl
theorem ordI_geq {d e : Xp} : decide (0 ≤ ordI d e) = !gtI d e := by
  cases h : gtI d e with
  | true => rw [decide_eq_false]; rfl; have := ordI_neg.2 h; omega
  | false => rw [decide_eq_true]; rfl; have : ¬ ordI d e < 0 := fun k => by rw [ordI_neg.1 k] at h; cases h
             omega

set_option maxRecDepth 10000 in
set_option maxHeartbeats 4000000 in
theorem pValid_any (ao : Option Addr) (n cap : Nat) (l : List Mr) (w : World) (h : Pol RatV w ao n cap l) :
    Calls Tryz.prog 14 #[.slice ao n cap] w fun e w' => e = .returned (.bool (vlB l)) ∧ Below w.heap.size w w' := by
  have hb := h.bound
  have hlen := hid h.len
  go_enter Tryz.func14, Tryz.ntmps14
  go_wp2_with fail
  go_loopw [7] (fun iv wr => ∃ i : Nat, i ≤ n ∧ iv = .int .i64 i ∧ Hid (∀ j, j < i → vlI l j = true) ∧ Below w.heap.size w wr) (fun i _ => n - (intOf i).toNat)
  case atStart => exact ⟨0, by omega, rfl, hid (fun j hj => by omega), Below.refl _ _⟩
  case round =>
    obtain ⟨i, hi, rfl, hall, hbel⟩ := hrel
    by_cases hlt : i < n
    · obtain ⟨b, o, x, y, z, s, xo, xn, xc, yo, yn, yc, q, hm, rfl, hx, hr⟩ := (h.nextV hbel).at_ hlt
      obtain ⟨x0, x1, x2, x3, x4, x5⟩ := hx.cells
      have hba : Below wr.heap.size wr (wr.alloc (.cells #[.int .i64 x, .int .i64 y, .int .i64 z, .bool s, .slice xo xn xc, .slice yo yn yc] 59)) := below_alloc _
      have hdd : ∀ W : World, Below W.heap.size W W.drew := fun W => (Below.refl _ _).drew
      have hG : H6 wr.heap.size 0 x y z s xo xn xc yo yn yc (wr.alloc (.cells #[.int .i64 x, .int .i64 y, .int .i64 z, .bool s, .slice xo xn xc, .slice yo yn yc] 59)).drew := (H6.fresh _ _ _ _ _ _ _ _ _ _ _ _).next (hdd _)
      have hr1 := (hr.next hba).next (hdd _)
      have hv := hid (vlI_eq hm)
      obtain ⟨f, hf⟩ : ∃ f, fitsB (x, y, z) q = f := ⟨_, rfl⟩
      have Hf := hid hf
      have hbel1 := below_chain (below_chain hbel hba) (hdd _)
      go_wp2_with fail
      cases f with
      | false =>
        have hno := hid (vlB_no (i := i) (by rw [hlen.out]; exact hlt) (by rw [hv.out]; (try dsimp only); rw [Hf.out]; rfl))
        clear hf hx hr hm
        refine wp_region_D (fun w' => H6 wr.heap.size 0 x y z s xo xn xc yo yn yc w') [] (by kernel_rfl) ?_
        refine wpAnyD_take (i := 0) (v := ?_) rfl (by kernel_rfl) (by kernel_rfl) (by kernel_rfl) (by kernel_rfl) (fun _ _ _ h => h) (Or.inl ⟨by rfl, ?_⟩) hG ?_
        rotate_left
        · intro w hw; obtain ⟨⟨s1', s2', s3'⟩, s4', s5', s6'⟩ := hw; first | (go_simp; done) | (go_simp; with_reducible rfl)
        refine wpAnyD_one (i := 1) (by kernel_rfl) rfl (fun KK hKK => ?_)
        go_simp
        go_at_call 46
        refine (fits_any x y z s xo xn xc yo yn yc q _ hr1).mono ?_; rw [Hf.out]; rintro e w2 ⟨rfl, hb2⟩
        have hG2 := hG.next hb2
        refine hKK _ _ ⟨fun _ => hG2, ?_⟩; clear hKK KK
        refine wpAnyD_take (i := 2) (v := ?_) rfl (by kernel_rfl) (by kernel_rfl) (by kernel_rfl) (by kernel_rfl) (fun _ _ _ h => h) (Or.inl ⟨by rfl, ?_⟩) hG2 ?_
        rotate_left
        · intro w _; first | (go_simp; done) | (go_simp; with_reducible rfl)
        refine wpAnyD_take (i := 3) (v := ?_) rfl (by kernel_rfl) (by kernel_rfl) (by kernel_rfl) (by kernel_rfl) (fun _ _ _ h => h) (Or.inl ⟨by rfl, ?_⟩) hG2 ?_
        rotate_left
        · intro w _; first | (go_simp; done) | (go_simp; with_reducible rfl)
        refine wpAnyD_take (i := 4) (v := undef) rfl (by kernel_rfl) (by kernel_rfl) (by kernel_rfl) (by kernel_rfl) (fun _ _ _ h => h) (Or.inr ⟨by kernel_rfl, rfl⟩) hG2 ?_
        refine wpAnyD_take (i := 5) (v := undef) rfl (by kernel_rfl) (by kernel_rfl) (by kernel_rfl) (by kernel_rfl) (fun _ _ _ h => h) (Or.inr ⟨by kernel_rfl, rfl⟩) hG2 ?_
        refine wpAnyD_take (i := 6) (v := undef) rfl (by kernel_rfl) (by kernel_rfl) (by kernel_rfl) (by kernel_rfl) (fun _ _ _ h => h) (Or.inr ⟨by kernel_rfl, rfl⟩) hG2 ?_
        refine wpAnyD_take (i := 7) (v := undef) rfl (by kernel_rfl) (by kernel_rfl) (by kernel_rfl) (by kernel_rfl) (fun _ _ _ h => h) (Or.inr ⟨by kernel_rfl, rfl⟩) hG2 ?_
        refine wpAnyD_take (i := 8) (v := undef) rfl (by kernel_rfl) (by kernel_rfl) (by kernel_rfl) (by kernel_rfl) (fun _ _ _ h => h) (Or.inr ⟨by kernel_rfl, rfl⟩) hG2 ?_
        refine wpAnyD_take (i := 9) (v := undef) rfl (by kernel_rfl) (by kernel_rfl) (by kernel_rfl) (by kernel_rfl) (fun _ _ _ h => h) (Or.inr ⟨by kernel_rfl, rfl⟩) hG2 ?_
        refine wpAnyD_take (i := 10) (v := undef) rfl (by kernel_rfl) (by kernel_rfl) (by kernel_rfl) (by kernel_rfl) (fun _ _ _ h => h) (Or.inr ⟨by kernel_rfl, rfl⟩) hG2 ?_
        refine wpAnyD_take (i := 11) (v := undef) rfl (by kernel_rfl) (by kernel_rfl) (by kernel_rfl) (by kernel_rfl) (fun _ _ _ h => h) (Or.inr ⟨by kernel_rfl, rfl⟩) hG2 ?_
        refine wpAnyD_take (i := 12) (v := undef) rfl (by kernel_rfl) (by kernel_rfl) (by kernel_rfl) (by kernel_rfl) (fun _ _ _ h => h) (Or.inr ⟨by kernel_rfl, rfl⟩) hG2 ?_
        refine wpAnyD_take (i := 13) (v := undef) rfl (by kernel_rfl) (by kernel_rfl) (by kernel_rfl) (by kernel_rfl) (fun _ _ _ h => h) (Or.inr ⟨by kernel_rfl, rfl⟩) hG2 ?_
        refine wpAnyD_take (i := 14) (v := undef) rfl (by kernel_rfl) (by kernel_rfl) (by kernel_rfl) (by kernel_rfl) (fun _ _ _ h => h) (Or.inr ⟨by kernel_rfl, rfl⟩) hG2 ?_
        refine wpAnyD_take (i := 15) (v := undef) rfl (by kernel_rfl) (by kernel_rfl) (by kernel_rfl) (by kernel_rfl) (fun _ _ _ h => h) (Or.inr ⟨by kernel_rfl, rfl⟩) hG2 ?_
        refine wpAnyD_take (i := 16) (v := undef) rfl (by kernel_rfl) (by kernel_rfl) (by kernel_rfl) (by kernel_rfl) (fun _ _ _ h => h) (Or.inr ⟨by kernel_rfl, rfl⟩) hG2 ?_
        refine wpAnyD_take (i := 17) (v := undef) rfl (by kernel_rfl) (by kernel_rfl) (by kernel_rfl) (by kernel_rfl) (fun _ _ _ h => h) (Or.inr ⟨by kernel_rfl, rfl⟩) hG2 ?_
        refine wpAnyD_take (i := 18) (v := ?_) rfl (by kernel_rfl) (by kernel_rfl) (by kernel_rfl) (by kernel_rfl) (fun _ _ _ h => h) (Or.inl ⟨by rfl, ?_⟩) hG2 ?_
        rotate_left
        · intro w _; first | (go_simp; done) | (go_simp; with_reducible rfl)
        refine wpAnyD_done (by kernel_rfl) ?_ _
        go_simp
        have hbel2 := below_chain hbel1 hb2
        go_wp2_with fail
        go_ret
        exact ⟨retB hno.out.symm, hbel2⟩
      | true =>
        by_cases hi0 : i = 0
        · subst hi0
          have hall2 : Hid (∀ j, j < 1 → vlI l j = true) := hid (fun j hj => by
            obtain rfl : j = 0 := by omega
            rw [hv.out]; (try dsimp only); rw [Hf.out]; rfl)
          clear hf hx hr hm
          refine wp_region_D (fun w' => H6 wr.heap.size 0 x y z s xo xn xc yo yn yc w') [] (by kernel_rfl) ?_
          refine wpAnyD_take (i := 0) (v := ?_) rfl (by kernel_rfl) (by kernel_rfl) (by kernel_rfl) (by kernel_rfl) (fun _ _ _ h => h) (Or.inl ⟨by rfl, ?_⟩) hG ?_
          rotate_left
          · intro w hw; obtain ⟨⟨s1', s2', s3'⟩, s4', s5', s6'⟩ := hw; first | (go_simp; done) | (go_simp; with_reducible rfl)
          refine wpAnyD_one (i := 1) (by kernel_rfl) rfl (fun KK hKK => ?_)
          go_simp
          go_at_call 46
          refine (fits_any x y z s xo xn xc yo yn yc q _ hr1).mono ?_; rw [Hf.out]; rintro e w2 ⟨rfl, hb2⟩
          have hG2 := hG.next hb2
          refine hKK _ _ ⟨fun _ => hG2, ?_⟩; clear hKK KK
          refine wpAnyD_take (i := 2) (v := ?_) rfl (by kernel_rfl) (by kernel_rfl) (by kernel_rfl) (by kernel_rfl) (fun _ _ _ h => h) (Or.inl ⟨by rfl, ?_⟩) hG2 ?_
          rotate_left
          · intro w _; first | (go_simp; done) | (go_simp; with_reducible rfl)
          refine wpAnyD_take (i := 3) (v := ?_) rfl (by kernel_rfl) (by kernel_rfl) (by kernel_rfl) (by kernel_rfl) (fun _ _ _ h => h) (Or.inl ⟨by rfl, ?_⟩) hG2 ?_
          rotate_left
          · intro w _; first | (go_simp; done) | (go_simp; with_reducible rfl)
          refine wpAnyD_take (i := 4) (v := ?_) rfl (by kernel_rfl) (by kernel_rfl) (by kernel_rfl) (by kernel_rfl) (fun _ _ _ h => h) (Or.inl ⟨by kernel_rfl, ?_⟩) hG2 ?_
          rotate_left
          · intro w _; first | (go_simp; done) | (go_simp; with_reducible rfl)
          refine wpAnyD_take (i := 5) (v := ?_) rfl (by kernel_rfl) (by kernel_rfl) (by kernel_rfl) (by kernel_rfl) (fun _ _ _ h => h) (Or.inl ⟨by kernel_rfl, ?_⟩) hG2 ?_
          rotate_left
          · intro w _; first | (go_simp; done) | (go_simp; with_reducible rfl)
          refine wpAnyD_take (i := 6) (v := ?_) rfl (by kernel_rfl) (by kernel_rfl) (by kernel_rfl) (by kernel_rfl) (fun _ _ _ h => h) (Or.inl ⟨by kernel_rfl, ?_⟩) hG2 ?_
          rotate_left
          · intro w _; first | (go_simp; done) | (go_simp; with_reducible rfl)
          refine wpAnyD_take (i := 7) (v := undef) rfl (by kernel_rfl) (by kernel_rfl) (by kernel_rfl) (by kernel_rfl) (fun _ _ _ h => h) (Or.inr ⟨by kernel_rfl, rfl⟩) hG2 ?_
          refine wpAnyD_take (i := 8) (v := undef) rfl (by kernel_rfl) (by kernel_rfl) (by kernel_rfl) (by kernel_rfl) (fun _ _ _ h => h) (Or.inr ⟨by kernel_rfl, rfl⟩) hG2 ?_
          refine wpAnyD_take (i := 9) (v := undef) rfl (by kernel_rfl) (by kernel_rfl) (by kernel_rfl) (by kernel_rfl) (fun _ _ _ h => h) (Or.inr ⟨by kernel_rfl, rfl⟩) hG2 ?_
          refine wpAnyD_take (i := 10) (v := undef) rfl (by kernel_rfl) (by kernel_rfl) (by kernel_rfl) (by kernel_rfl) (fun _ _ _ h => h) (Or.inr ⟨by kernel_rfl, rfl⟩) hG2 ?_
          refine wpAnyD_take (i := 11) (v := undef) rfl (by kernel_rfl) (by kernel_rfl) (by kernel_rfl) (by kernel_rfl) (fun _ _ _ h => h) (Or.inr ⟨by kernel_rfl, rfl⟩) hG2 ?_
          refine wpAnyD_take (i := 12) (v := undef) rfl (by kernel_rfl) (by kernel_rfl) (by kernel_rfl) (by kernel_rfl) (fun _ _ _ h => h) (Or.inr ⟨by kernel_rfl, rfl⟩) hG2 ?_
          refine wpAnyD_take (i := 13) (v := undef) rfl (by kernel_rfl) (by kernel_rfl) (by kernel_rfl) (by kernel_rfl) (fun _ _ _ h => h) (Or.inr ⟨by kernel_rfl, rfl⟩) hG2 ?_
          refine wpAnyD_take (i := 14) (v := undef) rfl (by kernel_rfl) (by kernel_rfl) (by kernel_rfl) (by kernel_rfl) (fun _ _ _ h => h) (Or.inr ⟨by kernel_rfl, rfl⟩) hG2 ?_
          refine wpAnyD_take (i := 15) (v := undef) rfl (by kernel_rfl) (by kernel_rfl) (by kernel_rfl) (by kernel_rfl) (fun _ _ _ h => h) (Or.inr ⟨by kernel_rfl, rfl⟩) hG2 ?_
          refine wpAnyD_take (i := 16) (v := undef) rfl (by kernel_rfl) (by kernel_rfl) (by kernel_rfl) (by kernel_rfl) (fun _ _ _ h => h) (Or.inr ⟨by kernel_rfl, rfl⟩) hG2 ?_
          refine wpAnyD_take (i := 17) (v := ?_) rfl (by kernel_rfl) (by kernel_rfl) (by kernel_rfl) (by kernel_rfl) (fun _ _ _ h => h) (Or.inl ⟨by kernel_rfl, ?_⟩) hG2 ?_
          rotate_left
          · intro w _; first | (go_simp; done) | (go_simp; with_reducible rfl)
          refine wpAnyD_take (i := 18) (v := ?_) rfl (by kernel_rfl) (by kernel_rfl) (by kernel_rfl) (by kernel_rfl) (fun _ _ _ h => h) (Or.inl ⟨by rfl, ?_⟩) hG2 ?_
          rotate_left
          · intro w _; first | (go_simp; done) | (go_simp; with_reducible rfl)
          refine wpAnyD_done (by kernel_rfl) ?_ _
          go_simp
          have hbel2 := below_chain hbel1 hb2
          go_wp2_with fail
          go_roundw
          case rel => exact ⟨1, by omega, by go_num, hall2, hbel2⟩
          case measure => simp [intOf]; omega
        · obtain ⟨j, rfl⟩ : ∃ j, i = j + 1 := ⟨i - 1, by omega⟩
          obtain ⟨b', o', a2, b2, c2, s2, vo, vn, vc, uo, un, uc, q2, hm2, eb, hx2, hr2⟩ := (h.nextV hbel).at_ (show j < n by omega)
          simp only [Option.some.injEq, Addr.mk.injEq, and_true] at eb
          obtain ⟨rfl, rfl⟩ := eb
          have hP : H3 b (o + j * 6) a2 b2 c2 (wr.alloc (.cells #[.int .i64 x, .int .i64 y, .int .i64 z, .bool s, .slice xo xn xc, .slice yo yn yc] 59)).drew := ((hx2.next hba).next (hdd _)).h6.1
          obtain ⟨g, hg⟩ : ∃ g, gtI (a2, b2, c2) (x, y, z) = g := ⟨_, rfl⟩
          have hvg : Hid (vlI l (j + 1) = g) := hid (by
            rw [hv.out]; try dsimp only
            rw [Hf.out, Nat.add_sub_cancel, hm2]; dsimp only; rw [hg]; simp)
          have hge := hid (ordI_geq (d := (a2, b2, c2)) (e := (x, y, z)))
          rw [hg] at hge
          have hord := hid (fun W => order_below (a2, b2, c2) (x, y, z) W)
          obtain ⟨R, hR⟩ : ∃ R, ordI (a2, b2, c2) (x, y, z) = R := ⟨_, rfl⟩
          rw [hR] at hge hord
          have hSS : H6 wr.heap.size 0 x y z s xo xn xc yo yn yc (wr.alloc (.cells #[.int .i64 x, .int .i64 y, .int .i64 z, .bool s, .slice xo xn xc, .slice yo yn yc] 59)).drew ∧ H3 b (o + j * 6) a2 b2 c2 (wr.alloc (.cells #[.int .i64 x, .int .i64 y, .int .i64 z, .bool s, .slice xo xn xc, .slice yo yn yc] 59)).drew := ⟨hG, hP⟩
          have hj1 : (0 : Int) ≤ (j : Int) := by omega
          have hj2 : (j : Int) < (n : Int) := by omega
          have hwj : IntKind.i64.wrap (j : Int) = j := by rw [IntKind.wrap_i64]; omega
          clear hf hx hr hm hx2 hr2 hm2 hR hg hG hP
          refine wp_region_D (fun w' => H6 wr.heap.size 0 x y z s xo xn xc yo yn yc w' ∧ H3 b (o + j * 6) a2 b2 c2 w') [] (by kernel_rfl) ?_
          refine wpAnyD_take (i := 0) (v := ?_) rfl (by kernel_rfl) (by kernel_rfl) (by kernel_rfl) (by kernel_rfl) (fun _ _ _ h => h) (Or.inl ⟨by rfl, ?_⟩) hSS ?_
          rotate_left
          · intro w hw; obtain ⟨⟨⟨s1', s2', s3'⟩, s4', s5', s6'⟩, s7', s8', s9'⟩ := hw; first | (go_simp; done) | (go_simp; with_reducible rfl)
          refine wpAnyD_one (i := 1) (by kernel_rfl) rfl (fun KK hKK => ?_)
          go_simp
          go_at_call 46
          refine (fits_any x y z s xo xn xc yo yn yc q _ hr1).mono ?_; rw [Hf.out]; rintro e w2 ⟨rfl, hb2⟩
          have hS2 := And.intro (hSS.1.next hb2) (hSS.2.next hb2)
          refine hKK _ _ ⟨fun _ => hS2, ?_⟩; clear hKK KK
          refine wpAnyD_take (i := 2) (v := ?_) rfl (by kernel_rfl) (by kernel_rfl) (by kernel_rfl) (by kernel_rfl) (fun _ _ _ h => h) (Or.inl ⟨by rfl, ?_⟩) hS2 ?_
          rotate_left
          · intro w _; first | (go_simp; done) | (go_simp; with_reducible rfl)
          refine wpAnyD_take (i := 3) (v := ?_) rfl (by kernel_rfl) (by kernel_rfl) (by kernel_rfl) (by kernel_rfl) (fun _ _ _ h => h) (Or.inl ⟨by rfl, ?_⟩) hS2 ?_
          rotate_left
          · intro w _; first | (go_simp; done) | (go_simp; with_reducible rfl)
          refine wpAnyD_take (i := 4) (v := ?_) rfl (by kernel_rfl) (by kernel_rfl) (by kernel_rfl) (by kernel_rfl) (fun _ _ _ h => h) (Or.inl ⟨by kernel_rfl, ?_⟩) hS2 ?_
          rotate_left
          · intro w _; first | (go_simp; done) | (go_simp; with_reducible rfl)
          refine wpAnyD_take (i := 5) (v := ?_) rfl (by kernel_rfl) (by kernel_rfl) (by kernel_rfl) (by kernel_rfl) (fun _ _ _ h => h) (Or.inl ⟨by kernel_rfl, ?_⟩) hS2 ?_
          rotate_left
          · intro w _; first | (go_simp; done) | (go_simp; with_reducible rfl)
          refine wpAnyD_take (i := 6) (v := ?_) rfl (by kernel_rfl) (by kernel_rfl) (by kernel_rfl) (by kernel_rfl) (fun _ _ _ h => h) (Or.inl ⟨by kernel_rfl, ?_⟩) hS2 ?_
          rotate_left
          · intro w _; first | (go_simp; done) | (go_simp; with_reducible rfl)
          refine wpAnyD_take (i := 7) (v := ?_) rfl (by kernel_rfl) (by kernel_rfl) (by kernel_rfl) (by kernel_rfl) (fun _ _ _ h => h) (Or.inl ⟨by kernel_rfl, ?_⟩) hS2 ?_
          rotate_left
          · intro w _; first | (go_simp; done) | (go_simp; with_reducible rfl)
          refine wpAnyD_take (i := 8) (v := ?_) rfl (by kernel_rfl) (by kernel_rfl) (by kernel_rfl) (by kernel_rfl) (fun _ _ _ h => h) (Or.inl ⟨by kernel_rfl, ?_⟩) hS2 ?_
          rotate_left
          · intro w _; first | (go_simp; done) | (go_simp; with_reducible rfl)
          refine wpAnyD_take (i := 9) (v := ?_) rfl (by kernel_rfl) (by kernel_rfl) (by kernel_rfl) (by kernel_rfl) (fun _ _ _ h => h) (Or.inl ⟨by kernel_rfl, ?_⟩) hS2 ?_
          rotate_left
          · intro w _; first | (go_simp; done) | (go_simp; with_reducible rfl)
          refine wpAnyD_take (i := 10) (v := ?_) rfl (by kernel_rfl) (by kernel_rfl) (by kernel_rfl) (by kernel_rfl) (fun _ _ _ h => h) (Or.inl ⟨by kernel_rfl, ?_⟩) hS2 ?_
          rotate_left
          · intro w _; first | (go_simp; done) | (go_simp; with_reducible rfl)
          refine wpAnyD_take (i := 11) (v := ?_) rfl (by kernel_rfl) (by kernel_rfl) (by kernel_rfl) (by kernel_rfl) (fun _ _ _ h => h) (Or.inl ⟨by kernel_rfl, ?_⟩) hS2 ?_
          rotate_left
          · intro w _; first | (go_simp; done) | (go_simp; with_reducible rfl)
          refine wpAnyD_take (i := 12) (v := ?_) rfl (by kernel_rfl) (by kernel_rfl) (by kernel_rfl) (by kernel_rfl) (fun _ _ _ h => h) (Or.inl ⟨by kernel_rfl, ?_⟩) hS2 ?_
          rotate_left
          · intro w hw; obtain ⟨⟨⟨s1', s2', s3'⟩, s4', s5', s6'⟩, s7', s8', s9'⟩ := hw; first | (go_simp; done) | (go_simp; with_reducible rfl)
          refine wpAnyD_take (i := 13) (v := ?_) rfl (by kernel_rfl) (by kernel_rfl) (by kernel_rfl) (by kernel_rfl) (fun _ _ _ h => h) (Or.inl ⟨by kernel_rfl, ?_⟩) hS2 ?_
          rotate_left
          · intro w _; first | (go_simp; done) | (go_simp; with_reducible rfl)
          refine wpAnyD_take (i := 14) (v := ?_) rfl (by kernel_rfl) (by kernel_rfl) (by kernel_rfl) (by kernel_rfl) (fun _ _ _ h => h) (Or.inl ⟨by kernel_rfl, ?_⟩) hS2 ?_
          rotate_left
          · intro w hw; obtain ⟨⟨⟨s1', s2', s3'⟩, s4', s5', s6'⟩, s7', s8', s9'⟩ := hw; first | (go_simp; done) | (go_simp; with_reducible rfl)
          refine wpAnyD_one (i := 15) (by kernel_rfl) rfl (fun KK hKK => ?_)
          go_simp
          go_at_call 47
          refine (hord.out _).mono ?_; rintro e w3 ⟨rfl, hb3⟩
          have hS3 := And.intro (hS2.1.next hb3) (hS2.2.next hb3)
          refine hKK _ _ ⟨fun _ => hS3, ?_⟩; clear hKK KK
          refine wpAnyD_take (i := 16) (v := ?_) rfl (by kernel_rfl) (by kernel_rfl) (by kernel_rfl) (by kernel_rfl) (fun _ _ _ h => h) (Or.inl ⟨by kernel_rfl, ?_⟩) hS3 ?_
          rotate_left
          · intro w _; first | (go_simp; done) | (go_simp; with_reducible rfl)
          refine wpAnyD_take (i := 17) (v := ?_) rfl (by kernel_rfl) (by kernel_rfl) (by kernel_rfl) (by kernel_rfl) (fun _ _ _ h => h) (Or.inl ⟨by kernel_rfl, ?_⟩) hS3 ?_
          rotate_left
          · intro w _; first | (go_simp; done) | (go_simp; with_reducible rfl)
          refine wpAnyD_take (i := 18) (v := ?_) rfl (by kernel_rfl) (by kernel_rfl) (by kernel_rfl) (by kernel_rfl) (fun _ _ _ h => h) (Or.inl ⟨by rfl, ?_⟩) hS3 ?_
          rotate_left
          · intro w _; first | (go_simp; done) | (go_simp; with_reducible rfl)
          refine wpAnyD_done (by kernel_rfl) ?_ _
          go_simp
          have hbel3 := below_chain (below_chain hbel1 hb2) hb3
          cases g with
          | false =>
            have hno := hid (vlB_no (i := j + 1) (by rw [hlen.out]; exact hlt) hvg.out)
            have c1 : decide (0 ≤ R) = true := hge.out
            rw [c1]
            go_wp2_with fail
            go_ret
            exact ⟨retB hno.out.symm, hbel3⟩
          | true =>
            have c1 : decide (0 ≤ R) = false := hge.out
            have hall2 : Hid (∀ k, k < j + 1 + 1 → vlI l k = true) := hid (fun k hk => by
              rcases Nat.lt_succ_iff_lt_or_eq.1 hk with h1 | h1
              · exact hall.out k h1
              · rw [h1]; exact hvg.out)
            rw [c1]
            go_wp2_with fail
            go_roundw
            case rel => exact ⟨j + 1 + 1, by omega, by go_num, hall2, hbel3⟩
            case measure => simp [intOf]; omega
    · obtain rfl : i = n := by omega
      have hres : Hid (vlB l = true) := hid (vlB_all.2 (by rw [hlen.out]; exact hall.out))
      go_wp2_with fail
      go_ret
      exact ⟨retB hres.out.symm, hbel⟩
end Go.Proofs.YtgohfieleckmgaaGreatDoor
