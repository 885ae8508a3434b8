/-
  Joined out of XPrw, XPrx, XPry, XPrz.
-/
import Derived.Test.YtgohfieleckmgaaGreatDoorPut

/-
  The contracts of the reference's Constant, Parameter and Add (package weightedref02). No condition but sizes.
-/
namespace Go.Proofs.YtgohfieleckmgaaGreatDoor
open Go.RowKit
set_option linter.unusedSimpArgs false
set_option linter.unusedVariables false

theorem rone_any (w : World) : Calls Tryz.prog 30 #[.int .i64 1, .int .i64 1] w (RatOut w 1) := by
  have := rOf_any 1 1 (by decide) (by decide) (by decide) (by decide) w
  rwa [make_one] at this
end Go.Proofs.YtgohfieleckmgaaGreatDoor

/-
  The contract of the reference's Mul (package weightedref02). No condition but sizes.
-/
namespace Go.Proofs.YtgohfieleckmgaaGreatDoor
open Go.RowKit
set_option linter.unusedSimpArgs false
set_option linter.unusedVariables false

section
variable {G : Nat} {w : World} {x y z : Int} {c c' : Bool × (Option Addr × Nat × Nat) × (Option Addr × Nat × Nat)}
theorem B6.putE0 (h : B6 G ((x, y, z), c) w) (x' : Int) : B6 G ((x', y, z), c) (w.setCell ⟨G, 0, none⟩ (.int .i64 x')) := by
  obtain ⟨T, hT⟩ := h
  exact ⟨T, heap_setCell_same w G 0 _ T _ hT⟩
theorem B6.putE1 (h : B6 G ((x, y, z), c) w) (y' : Int) : B6 G ((x, y', z), c) (w.setCell ⟨G, 1, none⟩ (.int .i64 y')) := by
  obtain ⟨T, hT⟩ := h
  exact ⟨T, heap_setCell_same w G 1 _ T _ hT⟩
theorem B6.putE2 (h : B6 G ((x, y, z), c) w) (z' : Int) : B6 G ((x, y, z'), c) (w.setCell ⟨G, 2, none⟩ (.int .i64 z')) := by
  obtain ⟨T, hT⟩ := h
  exact ⟨T, heap_setCell_same w G 2 _ T _ hT⟩
theorem grown_put1 (w : World) (G i : Nat) (x : Value) : w.grownBy (w.setCell ⟨G, i, none⟩ x) (some G) :=
  ⟨rfl, rfl, rfl, by simp, fun k hk hne => by rw [Below.heap_setCell _ _ _ _ (show k ≠ G from fun e => hne (by rw [e]))]⟩
theorem B6.rat {m : Mo} {u : Value} {q : Rat} (h : B6 G m w) (hr : RatC w u q) (i : Nat) (x : Value) : RatC (w.setCell ⟨G, i, none⟩ x) u q := by
  obtain ⟨T, hown⟩ := h.own
  exact hr.grownU hown isMon_u32 (grown_put1 w G i x)
/-- All six are stored. -/
abbrev set6 (w : World) (G : Nat) (a b d e f g : Value) : World := (((((w.setCell ⟨G, 0, none⟩ a).setCell ⟨G, 1, none⟩ b).setCell ⟨G, 2, none⟩ d).setCell ⟨G, 3, none⟩ e).setCell ⟨G, 4, none⟩ f).setCell ⟨G, 5, none⟩ g
theorem B6.all {x' y' z' : Int} (h : B6 G ((x, y, z), c) w) : B6 G ((x', y', z'), c') (set6 w G (.int .i64 x') (.int .i64 y') (.int .i64 z') (.bool c'.1) (.slice c'.2.1.1 c'.2.1.2.1 c'.2.1.2.2) (.slice c'.2.2.1 c'.2.2.2.1 c'.2.2.2.2)) :=
  ((((h.putE0 x').putE1 y').putE2 z')).put
theorem B6.rat6 {u : Value} {q : Rat} (h : B6 G ((x, y, z), c) w) (hr : RatC w u q) (x' y' z' : Int) : RatC (set6 w G (.int .i64 x') (.int .i64 y') (.int .i64 z') (.bool c'.1) (.slice c'.2.1.1 c'.2.1.2.1 c'.2.1.2.2) (.slice c'.2.2.1 c'.2.2.2.1 c'.2.2.2.2)) u q := by
  have h0 := h.putE0 x'
  have h1 := h0.putE1 y'
  have h2 := h1.putE2 z'
  have r2 := h1.rat (h0.rat (h.rat hr 0 (.int .i64 x')) 1 (.int .i64 y')) 2 (.int .i64 z')
  obtain ⟨T, hown⟩ := h2.own
  exact r2.grownU hown isMon_u32 (grown_put3 _ G _ _ _)
theorem below_set6 {v : World} {B : Nat} (h : Below B v w) (hG : B ≤ G) (a b d e f g : Value) : Below B v (set6 w G a b d e f g) :=
  (((((h.setCell hG _).setCell hG _).setCell hG _).setCell hG _).setCell hG _).setCell hG _
end
end Go.Proofs.YtgohfieleckmgaaGreatDoor

/-
  The contract of the reference's Scale (package weightedref02). No condition but sizes.
-/
namespace Go.Proofs.YtgohfieleckmgaaGreatDoor
open Go.RowKit
set_option linter.unusedSimpArgs false
set_option linter.unusedVariables false

end Go.Proofs.YtgohfieleckmgaaGreatDoor

/-
  The contracts of the reference's Less (package weightedref01), Lowest and Same (package weightedref02). No condition but sizes.
-/
namespace Go.Proofs.YtgohfieleckmgaaGreatDoor
open Go.RowKit
set_option linter.unusedSimpArgs false
set_option linter.unusedVariables false

/-! ### Lowest -/
set_option maxRecDepth 100000 in
theorem key3 : Tryz.prog.keyTypeAt 2 57 = true := by kernel_rfl
/-- '==' of exponents. -/
theorem eq3_run (d e : Ex) (hd : deg d ≤ 5) (he : deg e ≤ 5) (w : World) : (Op.equal 57 (.agg #[.int .i64 (exI d).1, .int .i64 (exI d).2.1, .int .i64 (exI d).2.2]) (.agg #[.int .i64 (exI e).1, .int .i64 (exI e).2.1, .int .i64 (exI e).2.2])).run Tryz.prog w = .ok (decide (d = e)) w := by
  obtain ⟨kl, hk⟩ := keyE d hd
  obtain ⟨kl', hk'⟩ := keyE e he
  obtain ⟨r, hr, hiff⟩ := run_equal_deep (P := Tryz.prog) w (m := 2) (by omega) key3 (by rw [Tryz.underlying57]) hk hk'
  have : r = decide (d = e) := by
    rw [Bool.eq_iff_iff, hiff, decide_eq_true_iff]
    constructor
    · intro h; subst h; exact keyE_same hk hk'
    · intro h; subst h; rw [hk] at hk'; exact Option.some.inj hk'
  rw [← this]
  exact hr
/-- .. as the walk asks it. -/
theorem eqi3_run (d e : Ex) (hd : deg d ≤ 5) (he : deg e ≤ 5) (w : World) : (Op.equalIn 10000 57 (.agg #[.int .i64 (d.1 : Int), .int .i64 (d.2.1 : Int), .int .i64 (d.2.2 : Int)]) (.agg #[.int .i64 (e.1 : Int), .int .i64 (e.2.1 : Int), .int .i64 (e.2.2 : Int)])).run Tryz.prog w = .ok (decide (d = e)) w := eq3_run d e hd he w

/-! ### Same -/
set_option maxRecDepth 10000 in
set_option maxHeartbeats 4000000 in
theorem rPSame_any (P : Pl) (n : Nat) (hn : (lst P).length = n) (ao : Option Addr) (cap : Nat) (bo : Option Addr) (cap' : Nat) (w : World) (h : Pol RatC w ao n cap ((lst P).map toM)) (h' : Pol RatC w bo n cap' ((lst P).map toM)) :
    Calls Tryz.prog 16 #[.slice ao n cap, .slice bo n cap'] w fun e w' => e = .returned (.bool true) ∧ Below w.heap.size w w' := by
  have hb := h.bound
  have Hn := hid hn
  clear hn
  go_enter Tryz.func16, Tryz.ntmps16
  go_wp2_with fail
  go_loopw [5] (fun iv wr => ∃ i : Nat, i ≤ n ∧ iv = .int .i64 i ∧ Below w.heap.size w wr) (fun i _ => n - (intOf i).toNat)
  case atStart => exact ⟨0, by omega, rfl, Below.refl _ _⟩
  case round =>
    obtain ⟨i, hi, rfl, hbel⟩ := hrel
    by_cases hlt : i < n
    · obtain ⟨b, o, e1, e2, e3, q, s, xo, xn, xc, yo, yn, yc, hm, rfl, hx, hr⟩ := (Pol.nextC h hbel).atM hlt
      obtain ⟨b9, o9, d1, d2, d3, q9, s', xo', xn', xc', yo', yn', yc', hm9, rfl, hx9, hr9⟩ := (Pol.nextC h' hbel).atM hlt
      rw [hm] at hm9
      injection hm9 with hm9
      injection hm9 with h1 h2
      simp only [Prod.mk.injEq] at h1
      obtain ⟨k1, k2, k3⟩ := h1
      subst k1 k2 k3 h2
      have hmem := lst_at (List.mem_of_getElem? hm)
      have heq : ∀ W : World, (Op.equalIn 10000 57 (.agg #[.int .i64 (e1 : Int), .int .i64 (e2 : Int), .int .i64 (e3 : Int)]) (.agg #[.int .i64 (e1 : Int), .int .i64 (e2 : Int), .int .i64 (e3 : Int)])).run Tryz.prog W = .ok true W := fun W => by
        have := eqi3_run (e1, e2, e3) (e1, e2, e3) hmem.1 hmem.1 W
        rwa [decide_eq_true rfl] at this
      have hdd : Below wr.heap.size wr wr.drew := (Below.refl _ _).drew
      have hS0 := And.intro (H6.next hx hdd) (H6.next hx9 hdd)
      have hr1 := hr.next hdd
      have hr2 := hr9.next hdd
      have hbel1 := below_chain hbel hdd
      have i0 : (0 : Int) ≤ (i : Int) := by omega
      have i1 : (i : Int) < (n : Int) := by omega
      clear hx hx9 hr hr9 hm hmem
      go_wp2_with fail
      refine wp_region_D (fun w' => H6 b (o + i * 6) (e1 : Int) (e2 : Int) (e3 : Int) s xo xn xc yo yn yc w' ∧ H6 b9 (o9 + i * 6) (e1 : Int) (e2 : Int) (e3 : Int) s' xo' xn' xc' yo' yn' yc' w') [] (by kernel_rfl) ?_
      refine wpAnyD_take (i := 0) (v := ?_) rfl (by kernel_rfl) (by kernel_rfl) (by kernel_rfl) (by kernel_rfl) (fun _ _ _ h => h) (Or.inl ⟨by rfl, ?_⟩) hS0 ?_
      rotate_left
      · intro w _; first | (go_simp; done) | (go_simp; with_reducible rfl)
      refine wpAnyD_take (i := 1) (v := ?_) rfl (by kernel_rfl) (by kernel_rfl) (by kernel_rfl) (by kernel_rfl) (fun _ _ _ h => h) (Or.inl ⟨by rfl, ?_⟩) hS0 ?_
      rotate_left
      · intro w _; first | (go_simp; done) | (go_simp; with_reducible rfl)
      refine wpAnyD_take (i := 2) (v := ?_) rfl (by kernel_rfl) (by kernel_rfl) (by kernel_rfl) (by kernel_rfl) (fun _ _ _ h => h) (Or.inl ⟨by rfl, ?_⟩) hS0 ?_
      rotate_left
      · intro w _; first | (go_simp; done) | (go_simp; with_reducible rfl)
      refine wpAnyD_take (i := 3) (v := ?_) rfl (by kernel_rfl) (by kernel_rfl) (by kernel_rfl) (by kernel_rfl) (fun _ _ _ h => h) (Or.inl ⟨by rfl, ?_⟩) hS0 ?_
      rotate_left
      · intro w _; first | (go_simp; done) | (go_simp; with_reducible rfl)
      refine wpAnyD_take (i := 4) (v := ?_) rfl (by kernel_rfl) (by kernel_rfl) (by kernel_rfl) (by kernel_rfl) (fun _ _ _ h => h) (Or.inl ⟨by rfl, ?_⟩) hS0 ?_
      rotate_left
      · intro w hw; obtain ⟨⟨⟨s1', s2', s3'⟩, s4', s5', s6'⟩, ⟨t1', t2', t3'⟩, t4', t5', t6'⟩ := hw; first | (go_simp; done) | (go_simp; with_reducible rfl)
      refine wpAnyD_take (i := 5) (v := ?_) rfl (by kernel_rfl) (by kernel_rfl) (by kernel_rfl) (by kernel_rfl) (fun _ _ _ h => h) (Or.inl ⟨by rfl, ?_⟩) hS0 ?_
      rotate_left
      · intro w _; first | (go_simp; done) | (go_simp; with_reducible rfl)
      refine wpAnyD_take (i := 6) (v := ?_) rfl (by kernel_rfl) (by kernel_rfl) (by kernel_rfl) (by kernel_rfl) (fun _ _ _ h => h) (Or.inl ⟨by rfl, ?_⟩) hS0 ?_
      rotate_left
      · intro w _; first | (go_simp; done) | (go_simp; with_reducible rfl)
      refine wpAnyD_take (i := 7) (v := ?_) rfl (by kernel_rfl) (by kernel_rfl) (by kernel_rfl) (by kernel_rfl) (fun _ _ _ h => h) (Or.inl ⟨by rfl, ?_⟩) hS0 ?_
      rotate_left
      · intro w _; first | (go_simp; done) | (go_simp; with_reducible rfl)
      refine wpAnyD_take (i := 8) (v := ?_) rfl (by kernel_rfl) (by kernel_rfl) (by kernel_rfl) (by kernel_rfl) (fun _ _ _ h => h) (Or.inl ⟨by rfl, ?_⟩) hS0 ?_
      rotate_left
      · intro w _; first | (go_simp; done) | (go_simp; with_reducible rfl)
      refine wpAnyD_take (i := 9) (v := ?_) rfl (by kernel_rfl) (by kernel_rfl) (by kernel_rfl) (by kernel_rfl) (fun _ _ _ h => h) (Or.inl ⟨by rfl, ?_⟩) hS0 ?_
      rotate_left
      · intro w hw; obtain ⟨⟨⟨s1', s2', s3'⟩, s4', s5', s6'⟩, ⟨t1', t2', t3'⟩, t4', t5', t6'⟩ := hw; first | (go_simp; done) | (go_simp; with_reducible rfl)
      refine wpAnyD_take (i := 10) (v := ?_) rfl (by kernel_rfl) (by kernel_rfl) (by kernel_rfl) (by kernel_rfl) (fun _ _ _ h => h) (Or.inl ⟨by rfl, ?_⟩) hS0 ?_
      rotate_left
      · intro w _; first | (go_simp; done) | (go_simp; with_reducible rfl)
      refine wpAnyD_take (i := 11) (v := ?_) rfl (by kernel_rfl) (by kernel_rfl) (by kernel_rfl) (by kernel_rfl) (fun _ _ _ h => h) (Or.inl ⟨by rfl, ?_⟩) hS0 ?_
      rotate_left
      · intro w _; first | (go_simp; done) | (go_simp; with_reducible rfl)
      refine wpAnyD_take (i := 12) (v := ?_) rfl (by kernel_rfl) (by kernel_rfl) (by kernel_rfl) (by kernel_rfl) (fun _ _ _ h => h) (Or.inl ⟨by kernel_rfl, ?_⟩) hS0 ?_
      rotate_left
      · intro w _; first | (go_simp; done) | (go_simp; with_reducible rfl)
      refine wpAnyD_take (i := 13) (v := ?_) rfl (by kernel_rfl) (by kernel_rfl) (by kernel_rfl) (by kernel_rfl) (fun _ _ _ h => h) (Or.inl ⟨by kernel_rfl, ?_⟩) hS0 ?_
      rotate_left
      · intro w _; first | (go_simp; done) | (go_simp; with_reducible rfl)
      refine wpAnyD_take (i := 14) (v := ?_) rfl (by kernel_rfl) (by kernel_rfl) (by kernel_rfl) (by kernel_rfl) (fun _ _ _ h => h) (Or.inl ⟨by kernel_rfl, ?_⟩) hS0 ?_
      rotate_left
      · intro w _; first | (go_simp; done) | (go_simp; with_reducible rfl)
      refine wpAnyD_take (i := 15) (v := ?_) rfl (by kernel_rfl) (by kernel_rfl) (by kernel_rfl) (by kernel_rfl) (fun _ _ _ h => h) (Or.inl ⟨by kernel_rfl, ?_⟩) hS0 ?_
      rotate_left
      · intro w _; first | (go_simp; done) | (go_simp; with_reducible rfl)
      refine wpAnyD_take (i := 16) (v := ?_) rfl (by kernel_rfl) (by kernel_rfl) (by kernel_rfl) (by kernel_rfl) (fun _ _ _ h => h) (Or.inl ⟨by kernel_rfl, ?_⟩) hS0 ?_
      rotate_left
      · intro w hw; obtain ⟨⟨⟨s1', s2', s3'⟩, s4', s5', s6'⟩, ⟨t1', t2', t3'⟩, t4', t5', t6'⟩ := hw; first | (go_simp; done) | (go_simp; with_reducible rfl)
      refine wpAnyD_take (i := 17) (v := ?_) rfl (by kernel_rfl) (by kernel_rfl) (by kernel_rfl) (by kernel_rfl) (fun _ _ _ h => h) (Or.inl ⟨by kernel_rfl, ?_⟩) hS0 ?_
      rotate_left
      · intro w _; first | (go_simp; done) | (go_simp; with_reducible rfl)
      refine wpAnyD_take (i := 18) (v := ?_) rfl (by kernel_rfl) (by kernel_rfl) (by kernel_rfl) (by kernel_rfl) (fun _ _ _ h => h) (Or.inl ⟨by kernel_rfl, ?_⟩) hS0 ?_
      rotate_left
      · intro w _; first | (go_simp; done) | (go_simp; with_reducible rfl)
      refine wpAnyD_take (i := 19) (v := ?_) rfl (by kernel_rfl) (by kernel_rfl) (by kernel_rfl) (by kernel_rfl) (fun _ _ _ h => h) (Or.inl ⟨by kernel_rfl, ?_⟩) hS0 ?_
      rotate_left
      · intro w _; first | (go_simp; done) | (go_simp; with_reducible rfl)
      refine wpAnyD_take (i := 20) (v := ?_) rfl (by kernel_rfl) (by kernel_rfl) (by kernel_rfl) (by kernel_rfl) (fun _ _ _ h => h) (Or.inl ⟨by kernel_rfl, ?_⟩) hS0 ?_
      rotate_left
      · intro w _; first | (go_simp; done) | (go_simp; with_reducible rfl)
      refine wpAnyD_take (i := 21) (v := ?_) rfl (by kernel_rfl) (by kernel_rfl) (by kernel_rfl) (by kernel_rfl) (fun _ _ _ h => h) (Or.inl ⟨by kernel_rfl, ?_⟩) hS0 ?_
      rotate_left
      · intro w hw; obtain ⟨⟨⟨s1', s2', s3'⟩, s4', s5', s6'⟩, ⟨t1', t2', t3'⟩, t4', t5', t6'⟩ := hw; first | (go_simp; done) | (go_simp; with_reducible rfl)
      refine wpAnyD_one (i := 22) (by kernel_rfl) rfl (fun KK hKK => ?_)
      go_simp
      go_at_call 23
      refine (rSameC q q _ _ _ hr1 hr2).mono ?_; rintro e w4 ⟨rfl, hb4⟩; rw [show decide (q = q) = true from decide_eq_true rfl]
      have hS4 := And.intro (H6.next hS0.1 hb4) (H6.next hS0.2 hb4)
      refine hKK _ _ ⟨fun _ => hS4, ?_⟩; clear hKK KK
      refine wpAnyD_take (i := 23) (v := ?_) rfl (by kernel_rfl) (by kernel_rfl) (by kernel_rfl) (by kernel_rfl) (fun _ _ _ h => h) (Or.inl ⟨by kernel_rfl, ?_⟩) hS4 ?_
      rotate_left
      · intro w _; first | (go_simp; done) | (go_simp; with_reducible rfl)
      refine wpAnyD_take (i := 24) (v := ?_) rfl (by kernel_rfl) (by kernel_rfl) (by kernel_rfl) (by kernel_rfl) (fun _ _ _ h => h) (Or.inl ⟨by rfl, ?_⟩) hS4 ?_
      rotate_left
      · intro w _; first | (go_simp; done) | (go_simp; with_reducible rfl)
      refine wpAnyD_done (by kernel_rfl) ?_ _
      go_simp
      have hbel4 := below_chain hbel1 hb4
      go_wp2_with fail
      go_roundw
      case rel => exact ⟨i + 1, by omega, by go_num, hbel4⟩
      case measure => simp [intOf]; omega
    · obtain rfl : i = n := by omega
      go_wp2_with fail
      go_ret
      exact ⟨rfl, hbel⟩
end Go.Proofs.YtgohfieleckmgaaGreatDoor

