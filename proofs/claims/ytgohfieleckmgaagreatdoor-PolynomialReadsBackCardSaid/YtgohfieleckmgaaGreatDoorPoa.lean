/-
  The contracts of degree, order, possible and fits of both packages of polynomials. No condition but sizes.
-/
import Derived.Test.YtgohfieleckmgaaGreatDoorPol
import Derived.Test.YtgohfieleckmgaaGreatDoorRatU
import Derived.Deep.Quiet
namespace Go.Proofs.YtgohfieleckmgaaGreatDoor
open Go.RowKit
set_option linter.unusedSimpArgs false
set_option linter.unusedVariables false

/-- Exponents as a value. -/
def mkE (e : Xp) : Value := .agg #[.int .i64 e.1, .int .i64 e.2.1, .int .i64 e.2.2]
def dgI (e : Xp) : Int := e.1 + e.2.1 + e.2.2
/-- No exponent is great. -/
def smE (e : Xp) : Prop := (-1000000 ≤ e.1 ∧ e.1 ≤ 1000000) ∧ (-1000000 ≤ e.2.1 ∧ e.2.1 ≤ 1000000) ∧ (-1000000 ≤ e.2.2 ∧ e.2.2 ≤ 1000000)
theorem okE_sm {e : Xp} (h : okE e = true) : smE e := by
  have := okE_facts h
  unfold smE; omega

abbrev Cl (B o : Nat) (x : Value) (w : World) : Prop := w.cell? ⟨B, o, none⟩ = some x
theorem Cl.next {B o : Nat} {x : Value} {w w' : World} (h : Cl B o x w) (hb : Below w.heap.size w w') : Cl B o x w' := ((bcell hb).1 _ _ (World.block_lt_of_cell? _ _ h)).trans h
theorem Hex.move {w w' : World} {b o : Nat} {m : Mo} (h : Hex w b o m) (hb : Below w.heap.size w w') : Hex w' b o m := h.next hb

theorem idx0 (x y z : Value) (w : World) : (Instr.index 57 (.agg #[x, y, z]) (.int .i64 0)).run Tryz.prog w = .ok x w := by kernel_rfl
theorem idx1 (x y z : Value) (w : World) : (Instr.index 57 (.agg #[x, y, z]) (.int .i64 1)).run Tryz.prog w = .ok y w := by kernel_rfl
theorem idx2 (x y z : Value) (w : World) : (Instr.index 57 (.agg #[x, y, z]) (.int .i64 2)).run Tryz.prog w = .ok z w := by kernel_rfl

set_option maxHeartbeats 1000000 in
theorem degree_any (a b c : Int) (h : smE (a, b, c)) (w : World) :
    Calls Tryz.prog 60 #[.agg #[.int .i64 a, .int .i64 b, .int .i64 c]] w fun e w' => e = .returned (.int .i64 (a + b + c)) ∧ Below w.heap.size w w' := by
  obtain ⟨h1, h2, h3⟩ := h
  simp only at h1 h2 h3
  have hb : Below w.heap.size w (w.alloc (.cells #[.int .i64 a, .int .i64 b, .int .i64 c] 57)) := below_alloc _
  have i0 := idx0
  have i1 := idx1
  have i2 := idx2
  go_enter Tryz.func60, Tryz.ntmps60
  go_wp2_with fail
  go_loopw [7, 3] (fun iv sv wr => ∃ k s : Int, (0 ≤ k ∧ k ≤ 3) ∧ iv = .int .i64 k ∧ sv = .int .i64 s ∧ (k = 0 → s = 0) ∧ (k = 1 → s = a) ∧ (k = 2 → s = a + b) ∧ (k = 3 → s = a + b + c) ∧ wr = w.alloc (.cells #[.int .i64 a, .int .i64 b, .int .i64 c] 57)) (fun i _ _ => (3 - intOf i).toNat)
  case atStart => exact ⟨0, 0, by omega, rfl, rfl, fun _ => by trivial, fun h => by omega, fun h => by omega, fun h => by omega, rfl⟩
  case round =>
    obtain ⟨k, s, hk, rfl, rfl, k0, k1, k2, k3, rfl⟩ := hrel
    rcases (by omega : k = 0 ∨ k = 1 ∨ k = 2 ∨ k = 3) with rfl | rfl | rfl | rfl
    · have hs : 0 = s := (k0 rfl).symm
      subst hs
      clear k0 k1 k2 k3
      go_wp2_with fail
      go_roundw
      case rel => exact ⟨1, a, by omega, by go_num, by go_num, fun h => by omega, fun _ => by trivial, fun h => by omega, fun h => by omega, by trivial⟩
      case measure => simp [intOf]
    · have hs : a = s := (k1 rfl).symm
      subst hs
      clear k0 k1 k2 k3
      go_wp2_with fail
      go_roundw
      case rel => exact ⟨2, a + b, by omega, by go_num, by go_num, fun h => by omega, fun h => by omega, fun _ => by trivial, fun h => by omega, by trivial⟩
      case measure => simp [intOf]
    · have hs : a + b = s := (k2 rfl).symm
      subst hs
      clear k0 k1 k2 k3
      go_wp2_with fail
      go_roundw
      case rel => exact ⟨3, a + b + c, by omega, by go_num, by go_num, fun h => by omega, fun h => by omega, fun h => by omega, fun _ => by trivial, by trivial⟩
      case measure => simp [intOf]
    · have hs : a + b + c = s := (k3 rfl).symm
      subst hs
      clear k0 k1 k2 k3
      go_wp2_with fail
      go_ret
      exact ⟨rfl, hb⟩

theorem below_alloc2 {w : World} (o o' : Obj) (q : Nat) : Below w.heap.size w (((w.alloc o).alloc o').drewN q) :=
  ((below_alloc o).trans ((below_alloc o').mono (by rw [World.size_alloc]; omega))).trans (below_drewNs q)

/-! ### order -/
def cmI (x y : Int) : Int := if x < y then -1 else if y < x then 1 else 0
theorem isNaN_any (x : Int) (w : World) : Calls Tryz.prog 129 #[.int .i64 x] w fun e w' => e = .returned (.bool false) ∧ w = w' := by
  have h : ((x : Int) != x) = false := by simp
  go_enter Tryz.func129, Tryz.ntmps129
  go_wp2_with fail
  go_ret
  exact ⟨rfl, rfl⟩
theorem cmI_any (x y : Int) (w : World) : Calls Tryz.prog 94 #[.int .i64 x, .int .i64 y] w fun e w' => e = .returned (.int .i64 (cmI x y)) ∧ w = w' := by
  by_cases h1 : x < y
  · have hres : Hid (cmI x y = -1) := hid (by unfold cmI; rw [if_pos h1])
    go_enter Tryz.func94, Tryz.ntmps94
    go_wp2_with fail
    refine (isNaN_any x _).mono ?_; rintro e w1 ⟨rfl, rfl⟩
    go_wp2_with fail
    refine (isNaN_any y _).mono ?_; rintro e w1 ⟨rfl, rfl⟩
    go_wp2_with fail
    go_ret
    exact ⟨retI hres.out.symm, rfl⟩
  · by_cases h2 : y < x
    · have hres : Hid (cmI x y = 1) := hid (by unfold cmI; rw [if_neg h1, if_pos h2])
      go_enter Tryz.func94, Tryz.ntmps94
      go_wp2_with fail
      refine (isNaN_any x _).mono ?_; rintro e w1 ⟨rfl, rfl⟩
      go_wp2_with fail
      refine (isNaN_any y _).mono ?_; rintro e w1 ⟨rfl, rfl⟩
      go_wp2_with fail
      go_ret
      exact ⟨retI hres.out.symm, rfl⟩
    · have hres : Hid (cmI x y = 0) := hid (by unfold cmI; rw [if_neg h1, if_neg h2])
      go_enter Tryz.func94, Tryz.ntmps94
      go_wp2_with fail
      refine (isNaN_any x _).mono ?_; rintro e w1 ⟨rfl, rfl⟩
      go_wp2_with fail
      refine (isNaN_any y _).mono ?_; rintro e w1 ⟨rfl, rfl⟩
      go_wp2_with fail
      go_ret
      exact ⟨retI hres.out.symm, rfl⟩
theorem ordI_first {d e : Xp} (h : cmI e.1 d.1 ≠ 0) : ordI d e = cmI e.1 d.1 := by
  unfold ordI cmI gtI at *
  by_cases h1 : e.1 < d.1
  · rw [if_neg (fun k => by rw [k] at h1; omega)]; simp [h1]
  · by_cases h2 : d.1 < e.1
    · rw [if_neg (fun k => by rw [k] at h2; omega)]; simp [h1, h2]; omega
    · simp [h1, h2] at h
theorem cmI_zero {x y : Int} : cmI x y = 0 ↔ x = y := by unfold cmI; grind
theorem ordI_second {d e : Xp} (h0 : cmI e.1 d.1 = 0) (h : cmI e.2.1 d.2.1 ≠ 0) : ordI d e = cmI e.2.1 d.2.1 := by
  rw [cmI_zero] at h0
  unfold ordI cmI gtI at *
  by_cases h1 : e.2.1 < d.2.1
  · rw [if_neg (fun k => by rw [k] at h1; omega)]; simp [h0, h1]
  · by_cases h2 : d.2.1 < e.2.1
    · rw [if_neg (fun k => by rw [k] at h2; omega)]; simp [h0, h1, h2]; omega
    · simp [h1, h2] at h
theorem ordI_third {d e : Xp} (h0 : cmI e.1 d.1 = 0) (h1 : cmI e.2.1 d.2.1 = 0) : ordI d e = cmI e.2.2 d.2.2 := by
  rw [cmI_zero] at h0 h1
  unfold ordI cmI gtI at *
  obtain ⟨d1, d2, d3⟩ := d
  obtain ⟨e1, e2, e3⟩ := e
  simp only at h0 h1
  subst h0 h1
  simp only [Prod.mk.injEq, true_and, Int.lt_irrefl, decide_false, Bool.false_or, decide_true, Bool.true_and, decide_eq_true_eq]
  grind

set_option maxHeartbeats 2000000 in
theorem order_any (d e : Xp) (w : World) :
    Calls Tryz.prog 47 #[.agg #[.int .i64 d.1, .int .i64 d.2.1, .int .i64 d.2.2], .agg #[.int .i64 e.1, .int .i64 e.2.1, .int .i64 e.2.2]] w fun en w' => en = .returned (.int .i64 (ordI d e)) ∧
      ∃ q, w' = ((w.alloc (.cells #[.int .i64 d.1, .int .i64 d.2.1, .int .i64 d.2.2] 57)).alloc (.cells #[.int .i64 e.1, .int .i64 e.2.1, .int .i64 e.2.2] 57)).drewN q := by
  obtain ⟨c1, hc1⟩ : ∃ c, cmI e.1 d.1 = c := ⟨_, rfl⟩
  obtain ⟨c2, hc2⟩ : ∃ c, cmI e.2.1 d.2.1 = c := ⟨_, rfl⟩
  obtain ⟨c3, hc3⟩ : ∃ c, cmI e.2.2 d.2.2 = c := ⟨_, rfl⟩
  have k1 := hid (fun W => by have := cmI_any e.1 d.1 W; rwa [hc1] at this)
  have k2 := hid (fun W => by have := cmI_any e.2.1 d.2.1 W; rwa [hc2] at this)
  have k3 := hid (fun W => by have := cmI_any e.2.2 d.2.2 W; rwa [hc3] at this)
  have r1 : Hid (c1 ≠ 0 → ordI d e = c1) := hid (fun h => by rw [← hc1] at h ⊢; exact ordI_first h)
  have r2 : Hid (c1 = 0 → c2 ≠ 0 → ordI d e = c2) := hid (fun h0 h => by rw [← hc1] at h0; rw [← hc2] at h ⊢; exact ordI_second h0 h)
  have r3 : Hid (c1 = 0 → c2 = 0 → ordI d e = c3) := hid (fun h0 h => by rw [← hc1] at h0; rw [← hc2] at h; rw [← hc3]; exact ordI_third h0 h)
  clear hc1 hc2 hc3
  obtain ⟨R, hR⟩ : ∃ R, ordI d e = R := ⟨_, rfl⟩
  rw [hR] at r1 r2 r3 ⊢
  clear hR
  obtain ⟨d1, d2, d3⟩ := d
  obtain ⟨e1, e2, e3⟩ := e
  dsimp only at k1 k2 k3 ⊢
  go_enter Tryz.func47, Tryz.ntmps47
  go_wp2_with fail
  go_loopw [7] (fun iv wr => ∃ k q : Nat, k ≤ 3 ∧ iv = .int .i64 k ∧ (1 ≤ k → c1 = 0) ∧ (2 ≤ k → c2 = 0) ∧ (3 ≤ k → c3 = 0) ∧ wr = ((w.alloc (.cells #[.int .i64 d1, .int .i64 d2, .int .i64 d3] 57)).alloc (.cells #[.int .i64 e1, .int .i64 e2, .int .i64 e3] 57)).drewN q) (fun i _ => 3 - (intOf i).toNat)
  case atStart => exact ⟨0, 0, by omega, rfl, fun h => by omega, fun h => by omega, fun h => by omega, rfl⟩
  case round =>
    obtain ⟨k, q, hk, rfl, z1, z2, z3, rfl⟩ := hrel
    rcases (by omega : k = 0 ∨ k = 1 ∨ k = 2 ∨ k = 3) with rfl | rfl | rfl | rfl
    · have Z1 := hid z1; have Z2 := hid z2; have Z3 := hid z3
      clear z1 z2 z3
      by_cases h0 : c1 = 0
      · subst h0
        go_wp2_with fail
        go_quiet ((go_at_call 94; first | exact quiet_eq (k1.out _) | exact quiet_add_left (k1.out _)))
        go_wp2_with fail
        go_roundw
        case rel => exact ⟨1, _, by omega, by go_num, fun _ => by trivial, fun h => by omega, fun h => by omega, by trivial⟩
        case measure => simp [intOf]
      · have h1 : (c1 != 0) = true := by rw [bne_iff_ne]; exact h0
        have hres := hid (r1.out h0)
        go_wp2_with fail
        go_quiet ((go_at_call 94; first | exact quiet_eq (k1.out _) | exact quiet_add_left (k1.out _)))
        go_wp2_with fail
        go_ret
        exact ⟨retI hres.out.symm, _, rfl⟩
    · have Z1 := hid z1; have Z2 := hid z2; have Z3 := hid z3
      clear z1 z2 z3
      by_cases h0 : c2 = 0
      · subst h0
        go_wp2_with fail
        go_quiet ((go_at_call 94; first | exact quiet_eq (k2.out _) | exact quiet_add_left (k2.out _)))
        go_wp2_with fail
        go_roundw
        case rel => exact ⟨2, _, by omega, by go_num, fun _ => Z1.out (by omega), fun _ => by trivial, fun h => by omega, by trivial⟩
        case measure => simp [intOf]
      · have h1 : (c2 != 0) = true := by rw [bne_iff_ne]; exact h0
        have hres := hid (r2.out (Z1.out (by omega)) h0)
        go_wp2_with fail
        go_quiet ((go_at_call 94; first | exact quiet_eq (k2.out _) | exact quiet_add_left (k2.out _)))
        go_wp2_with fail
        go_ret
        exact ⟨retI hres.out.symm, _, rfl⟩
    · have Z1 := hid z1; have Z2 := hid z2; have Z3 := hid z3
      clear z1 z2 z3
      by_cases h0 : c3 = 0
      · subst h0
        go_wp2_with fail
        go_quiet ((go_at_call 94; first | exact quiet_eq (k3.out _) | exact quiet_add_left (k3.out _)))
        go_wp2_with fail
        go_roundw
        case rel => exact ⟨3, _, by omega, by go_num, fun _ => Z1.out (by omega), fun _ => Z2.out (by omega), fun _ => by trivial, by trivial⟩
        case measure => simp [intOf]
      · have h1 : (c3 != 0) = true := by rw [bne_iff_ne]; exact h0
        have hres := hid (r3.out (Z1.out (by omega)) (Z2.out (by omega)))
        go_wp2_with fail
        go_quiet ((go_at_call 94; first | exact quiet_eq (k3.out _) | exact quiet_add_left (k3.out _)))
        go_wp2_with fail
        go_ret
        exact ⟨retI hres.out.symm, _, rfl⟩
    · have hres : Hid (R = 0) := hid (by rw [r3.out (z1 (by omega)) (z2 (by omega))]; exact z3 (by omega))
      clear z1 z2 z3
      go_wp2_with fail
      go_ret
      exact ⟨retI hres.out.symm, _, rfl⟩
theorem order_below (d e : Xp) (w : World) :
    Calls Tryz.prog 47 #[.agg #[.int .i64 d.1, .int .i64 d.2.1, .int .i64 d.2.2], .agg #[.int .i64 e.1, .int .i64 e.2.1, .int .i64 e.2.2]] w fun en w' => en = .returned (.int .i64 (ordI d e)) ∧ Below w.heap.size w w' :=
  (order_any d e w).mono fun _ _ ⟨he, q, hw⟩ => ⟨he, by subst hw; exact below_alloc2 _ _ q⟩

/-! ### the reference's order, possible -/
set_option maxHeartbeats 2000000 in
theorem rorder_any (a b : Xp) (w : World) :
    Calls Tryz.prog 51 #[.agg #[.int .i64 a.1, .int .i64 a.2.1, .int .i64 a.2.2], .agg #[.int .i64 b.1, .int .i64 b.2.1, .int .i64 b.2.2]] w fun en w' => en = .returned (.int .i64 (ordI b a)) ∧ Below w.heap.size w w' := by
  have r1 : Hid (a.1 ≠ b.1 → ordI b a = if a.1 < b.1 then -1 else 1) := hid (fun h => by
    have : cmI a.1 b.1 ≠ 0 := fun k => h (cmI_zero.1 k)
    rw [ordI_first this]; unfold cmI; grind)
  have r2 : Hid (a.1 = b.1 → a.2.1 ≠ b.2.1 → ordI b a = if a.2.1 < b.2.1 then -1 else 1) := hid (fun h0 h => by
    have : cmI a.2.1 b.2.1 ≠ 0 := fun k => h (cmI_zero.1 k)
    rw [ordI_second (cmI_zero.2 h0) this]; unfold cmI; grind)
  have r3 : Hid (a.1 = b.1 → a.2.1 = b.2.1 → a.2.2 ≠ b.2.2 → ordI b a = if a.2.2 < b.2.2 then -1 else 1) := hid (fun h0 h1 h => by
    rw [ordI_third (cmI_zero.2 h0) (cmI_zero.2 h1)]; unfold cmI; grind)
  have r4 : Hid (a.1 = b.1 → a.2.1 = b.2.1 → a.2.2 = b.2.2 → ordI b a = 0) := hid (fun h0 h1 h => by
    rw [ordI_third (cmI_zero.2 h0) (cmI_zero.2 h1), cmI_zero]; exact h)
  obtain ⟨R, hR⟩ : ∃ R, ordI b a = R := ⟨_, rfl⟩
  rw [hR] at r1 r2 r3 r4 ⊢
  clear hR
  obtain ⟨a1, a2, a3⟩ := a
  obtain ⟨b1, b2, b3⟩ := b
  dsimp only at r1 r2 r3 r4 ⊢
  have hbel : ∀ q, Below w.heap.size w (((w.alloc (.cells #[.int .i64 a1, .int .i64 a2, .int .i64 a3] 57)).alloc (.cells #[.int .i64 b1, .int .i64 b2, .int .i64 b3] 57)).drewN q) := fun q => below_alloc2 _ _ q
  go_enter Tryz.func51, Tryz.ntmps51
  go_wp2_with fail
  go_loopw [5] (fun iv wr => ∃ k q : Nat, k ≤ 3 ∧ iv = .int .i64 k ∧ Hid (1 ≤ k → a1 = b1) ∧ Hid (2 ≤ k → a2 = b2) ∧ Hid (3 ≤ k → a3 = b3) ∧ wr = ((w.alloc (.cells #[.int .i64 a1, .int .i64 a2, .int .i64 a3] 57)).alloc (.cells #[.int .i64 b1, .int .i64 b2, .int .i64 b3] 57)).drewN q) (fun i _ => 3 - (intOf i).toNat)
  case atStart => exact ⟨0, 0, by omega, rfl, hid (fun h => by omega), hid (fun h => by omega), hid (fun h => by omega), rfl⟩
  case round =>
    obtain ⟨k, q, hk, rfl, Z1, Z2, Z3, rfl⟩ := hrel
    rcases (by omega : k = 0 ∨ k = 1 ∨ k = 2 ∨ k = 3) with rfl | rfl | rfl | rfl
    · by_cases h0 : a1 = b1
      · have h1 : (a1 != b1) = false := by rw [h0]; simp
        have H0 := hid h0
        clear h0
        go_wp2_with fail
        go_quiet (fail)
        go_wp2_with fail
        go_roundw
        case rel => exact ⟨1, _, by omega, by go_num, hid (fun _ => H0.out), hid (fun h => by omega), hid (fun h => by omega), by trivial⟩
        case measure => simp [intOf]
      · have h1 : (a1 != b1) = true := by rw [bne_iff_ne]; exact h0
        have hres := hid (r1.out h0)
        by_cases h2 : a1 < b1
        · have hr2 : Hid (R = -1) := hid (by rw [hres.out, if_pos h2])
          have h3 : decide (a1 < b1) = true := decide_eq_true h2
          go_wp2_with fail
          go_quiet (fail)
          go_wp2_with fail
          go_quiet (fail)
          go_wp2_with fail
          go_ret
          exact ⟨retI hr2.out.symm, by rw [World.drewN_drewN, World.drewN_drewN]; exact hbel _⟩
        · have hr2 : Hid (R = 1) := hid (by rw [hres.out, if_neg h2])
          have h3 : decide (a1 < b1) = false := decide_eq_false h2
          go_wp2_with fail
          go_quiet (fail)
          go_wp2_with fail
          go_quiet (fail)
          go_wp2_with fail
          go_ret
          exact ⟨retI hr2.out.symm, by rw [World.drewN_drewN, World.drewN_drewN]; exact hbel _⟩
    · by_cases h0 : a2 = b2
      · have h1 : (a2 != b2) = false := by rw [h0]; simp
        have H0 := hid h0
        clear h0
        go_wp2_with fail
        go_quiet (fail)
        go_wp2_with fail
        go_roundw
        case rel => exact ⟨2, _, by omega, by go_num, hid (fun _ => Z1.out (by omega)), hid (fun _ => H0.out), hid (fun h => by omega), by trivial⟩
        case measure => simp [intOf]
      · have h1 : (a2 != b2) = true := by rw [bne_iff_ne]; exact h0
        have hres := hid (r2.out (Z1.out (by omega)) h0)
        by_cases h2 : a2 < b2
        · have hr2 : Hid (R = -1) := hid (by rw [hres.out, if_pos h2])
          have h3 : decide (a2 < b2) = true := decide_eq_true h2
          go_wp2_with fail
          go_quiet (fail)
          go_wp2_with fail
          go_quiet (fail)
          go_wp2_with fail
          go_ret
          exact ⟨retI hr2.out.symm, by rw [World.drewN_drewN, World.drewN_drewN]; exact hbel _⟩
        · have hr2 : Hid (R = 1) := hid (by rw [hres.out, if_neg h2])
          have h3 : decide (a2 < b2) = false := decide_eq_false h2
          go_wp2_with fail
          go_quiet (fail)
          go_wp2_with fail
          go_quiet (fail)
          go_wp2_with fail
          go_ret
          exact ⟨retI hr2.out.symm, by rw [World.drewN_drewN, World.drewN_drewN]; exact hbel _⟩
    · by_cases h0 : a3 = b3
      · have h1 : (a3 != b3) = false := by rw [h0]; simp
        have H0 := hid h0
        clear h0
        go_wp2_with fail
        go_quiet (fail)
        go_wp2_with fail
        go_roundw
        case rel => exact ⟨3, _, by omega, by go_num, hid (fun _ => Z1.out (by omega)), hid (fun _ => Z2.out (by omega)), hid (fun _ => H0.out), by trivial⟩
        case measure => simp [intOf]
      · have h1 : (a3 != b3) = true := by rw [bne_iff_ne]; exact h0
        have hres := hid (r3.out (Z1.out (by omega)) (Z2.out (by omega)) h0)
        by_cases h2 : a3 < b3
        · have hr2 : Hid (R = -1) := hid (by rw [hres.out, if_pos h2])
          have h3 : decide (a3 < b3) = true := decide_eq_true h2
          go_wp2_with fail
          go_quiet (fail)
          go_wp2_with fail
          go_quiet (fail)
          go_wp2_with fail
          go_ret
          exact ⟨retI hr2.out.symm, by rw [World.drewN_drewN, World.drewN_drewN]; exact hbel _⟩
        · have hr2 : Hid (R = 1) := hid (by rw [hres.out, if_neg h2])
          have h3 : decide (a3 < b3) = false := decide_eq_false h2
          go_wp2_with fail
          go_quiet (fail)
          go_wp2_with fail
          go_quiet (fail)
          go_wp2_with fail
          go_ret
          exact ⟨retI hr2.out.symm, by rw [World.drewN_drewN, World.drewN_drewN]; exact hbel _⟩
    · have hres := hid (r4.out (Z1.out (by omega)) (Z2.out (by omega)) (Z3.out (by omega)))
      go_wp2_with fail
      go_ret
      exact ⟨retI hres.out.symm, hbel _⟩

set_option maxHeartbeats 2000000 in
theorem possible_any (e : Xp) (w : World) :
    Calls Tryz.prog 48 #[.agg #[.int .i64 e.1, .int .i64 e.2.1, .int .i64 e.2.2]] w fun en w' => en = .returned (.bool (okE e)) ∧ Below w.heap.size w w' := by
  obtain ⟨a, b, c⟩ := e
  have hno : Hid (∀ x, (x = a ∨ x = b ∨ x = c) → ¬ (0 ≤ x ∧ x ≤ 5) → okE (a, b, c) = false) := hid (fun x hx h => by
    cases hb : okE (a, b, c) with
    | false => rfl
    | true => have := okE_facts hb; simp only at this; omega)
  have hyes : Hid (0 ≤ a ∧ a ≤ 5 → 0 ≤ b ∧ b ≤ 5 → 0 ≤ c ∧ c ≤ 5 → okE (a, b, c) = decide (a + b + c ≤ 5)) := hid (fun h1 h2 h3 => by
    rw [Bool.eq_iff_iff, okE_iff, decide_eq_true_eq]; simp only; omega)
  obtain ⟨R, hR⟩ : ∃ R, okE (a, b, c) = R := ⟨_, rfl⟩
  rw [hR] at hno hyes ⊢
  clear hR
  have hbel : Below w.heap.size w (w.alloc (.cells #[.int .i64 a, .int .i64 b, .int .i64 c] 57)) := below_alloc _
  simp only
  go_enter Tryz.func48, Tryz.ntmps48
  go_wp2_with fail
  go_loopw [4, 3] (fun iv sv wr => ∃ k : Nat, ∃ s : Int, k ≤ 3 ∧ iv = .int .i64 k ∧ sv = .int .i64 s ∧ Hid ((k = 0 → s = 0) ∧ (k = 1 → s = a) ∧ (k = 2 → s = a + b) ∧ (k = 3 → s = a + b + c) ∧ (1 ≤ k → 0 ≤ a ∧ a ≤ 5) ∧ (2 ≤ k → 0 ≤ b ∧ b ≤ 5) ∧ (3 ≤ k → 0 ≤ c ∧ c ≤ 5)) ∧ wr = w.alloc (.cells #[.int .i64 a, .int .i64 b, .int .i64 c] 57)) (fun i _ _ => 3 - (intOf i).toNat)
  case atStart => exact ⟨0, 0, by omega, rfl, rfl, hid ⟨fun _ => by trivial, fun h => by omega, fun h => by omega, fun h => by omega, fun h => by omega, fun h => by omega, fun h => by omega⟩, rfl⟩
  case round =>
    obtain ⟨k, s, hk, rfl, rfl, Hk, rfl⟩ := hrel
    rcases (by omega : k = 0 ∨ k = 1 ∨ k = 2 ∨ k = 3) with rfl | rfl | rfl | rfl
    · have hs : 0 = s := by have := Hk.out; omega
      subst hs
      have hpre : Hid True := hid trivial
      clear Hk
      by_cases h0 : a < 0
      · have hres := hid (hno.out a (by simp) (by omega))
        go_wp2_with fail
        go_ret
        exact ⟨retB hres.out.symm, hbel⟩
      · by_cases h5 : 5 < a
        · have hres := hid (hno.out a (by simp) (by omega))
          go_wp2_with fail
          go_ret
          exact ⟨retB hres.out.symm, hbel⟩
        · have g0 : 0 ≤ a := by omega
          have g5 : a ≤ 5 := by omega
          go_wp2_with fail
          go_roundw
          case rel => exact ⟨1, _, by omega, by go_num, rfl, hid (by have := hpre.out; omega), by trivial⟩
          case measure => simp [intOf]
    · have hs : a = s := by have := Hk.out; omega
      subst hs
      have hpre : Hid (0 ≤ a ∧ a ≤ 5) := hid (by have := Hk.out; omega)
      clear Hk
      by_cases h0 : b < 0
      · have hres := hid (hno.out b (by simp) (by omega))
        go_wp2_with fail
        go_ret
        exact ⟨retB hres.out.symm, hbel⟩
      · by_cases h5 : 5 < b
        · have hres := hid (hno.out b (by simp) (by omega))
          go_wp2_with fail
          go_ret
          exact ⟨retB hres.out.symm, hbel⟩
        · have g0 : 0 ≤ b := by omega
          have g5 : b ≤ 5 := by omega
          have p0 := hpre.out
          go_wp2_with fail
          go_roundw
          case rel => exact ⟨2, _, by omega, by go_num, rfl, hid (by have := hpre.out; omega), by trivial⟩
          case measure => simp [intOf]
    · have hs : a + b = s := by have := Hk.out; omega
      subst hs
      have hpre : Hid ((0 ≤ a ∧ a ≤ 5) ∧ (0 ≤ b ∧ b ≤ 5)) := hid (by have := Hk.out; omega)
      clear Hk
      by_cases h0 : c < 0
      · have hres := hid (hno.out c (by simp) (by omega))
        go_wp2_with fail
        go_ret
        exact ⟨retB hres.out.symm, hbel⟩
      · by_cases h5 : 5 < c
        · have hres := hid (hno.out c (by simp) (by omega))
          go_wp2_with fail
          go_ret
          exact ⟨retB hres.out.symm, hbel⟩
        · have g0 : 0 ≤ c := by omega
          have g5 : c ≤ 5 := by omega
          have p0 := hpre.out
          go_wp2_with fail
          go_roundw
          case rel => exact ⟨3, _, by omega, by go_num, rfl, hid (by have := hpre.out; omega), by trivial⟩
          case measure => simp [intOf]
    · have hs : a + b + c = s := by have := Hk.out; omega
      subst hs
      have hp := Hk.out
      have hres : Hid (R = decide (a + b + c ≤ 5)) := hid (hyes.out (by omega) (by omega) (by omega))
      clear hp Hk
      go_wp2_with fail
      go_ret
      exact ⟨retB hres.out.symm, hbel⟩

/-! ### fits -/
theorem ValidQ_any (q : Rat) (v : Value) (w : World) (h : RatV w v q) : Calls Tryz.prog 93 #[v] w fun e w' => ∃ ok, e = .returned (.bool ok) ∧ (ok = false → q = 0) ∧ Below w.heap.size w w' := by
  obtain ⟨neg, N, D, ao, bo, n, cap, m, cap', rfl, sN, sD, hN, hD, hza, hzb, hn, hm, hq⟩ := h
  exact (Valid_any neg N D hN hD ao bo n m cap cap' w sN sD hza hzb hn hm).mono fun _ _ ⟨he, hb⟩ => ⟨_, he, fun h0 => by rw [← hq]; unfold ratOf; rw [h0]; rfl, hb⟩
theorem rValidQ_any (q : Rat) (v : Value) (w : World) (h : RatV w v q) : Calls Tryz.prog 49 #[v] w fun e w' => ∃ ok, e = .returned (.bool ok) ∧ (ok = false → q = 0) ∧ Below w.heap.size w w' := by
  obtain ⟨neg, N, D, ao, bo, n, cap, m, cap', rfl, sN, sD, hN, hD, hza, hzb, hn, hm, hq⟩ := h
  exact (rValid_any neg N D hN hD ao bo n m cap cap' w sN sD hza hzb hn hm).mono fun _ _ ⟨he, hb⟩ => ⟨_, he, fun h0 => by rw [← hq]; unfold ratOf; rw [h0]; rfl, hb⟩
theorem rsg_ne {q : Rat} : (rsg q != 0) = decide (q ≠ 0) := by
  by_cases h : q = 0
  · subst h; rfl
  · rw [decide_eq_true h, bne_iff_ne]; exact fun e => h (rsg_eq_zero.1 e)
theorem rsg_eq {q : Rat} : (rsg q == 0) = decide (q = 0) := by
  by_cases h : q = 0
  · subst h; rfl
  · rw [decide_eq_false h, beq_eq_false_iff_ne]; exact fun e => h (rsg_eq_zero.1 e)

def fitsB (e : Xp) (q : Rat) : Bool := okE e && decide (q ≠ 0)

set_option maxHeartbeats 2000000 in
theorem fits_any (a b c : Int) (s : Bool) (xo : Option Addr) (xn xc : Nat) (yo : Option Addr) (yn yc : Nat) (q : Rat) (w : World) (hr : RatV w (.agg #[.bool s, .slice xo xn xc, .slice yo yn yc]) q) :
    Calls Tryz.prog 46 #[.agg #[.int .i64 a, .int .i64 b, .int .i64 c, .bool s, .slice xo xn xc, .slice yo yn yc]] w fun en w' => en = .returned (.bool (fitsB (a, b, c) q)) ∧ Below w.heap.size w w' := by
  have hno : Hid (∀ x, (x = a ∨ x = b ∨ x = c) → ¬ (0 ≤ x ∧ x ≤ 5) → fitsB (a, b, c) q = false) := hid (fun x hx h => by
    unfold fitsB
    cases hb : okE (a, b, c) with
    | false => rfl
    | true => have := okE_facts hb; simp only at this; omega)
  have hyes : Hid ((0 ≤ a ∧ a ≤ 5) ∧ (0 ≤ b ∧ b ≤ 5) ∧ (0 ≤ c ∧ c ≤ 5) → fitsB (a, b, c) q = (decide (a + b + c ≤ 5) && decide (q ≠ 0))) := hid (fun h => by
    unfold fitsB
    congr 1
    rw [Bool.eq_iff_iff, okE_iff, decide_eq_true_eq]; simp only; omega)
  obtain ⟨R, hR⟩ : ∃ R, fitsB (a, b, c) q = R := ⟨_, rfl⟩
  rw [hR] at hno hyes ⊢
  clear hR
  have hbel : Below w.heap.size w (w.alloc (.cells #[.int .i64 a, .int .i64 b, .int .i64 c, .bool s, .slice xo xn xc, .slice yo yn yc] 59)) := below_alloc _
  have hH : Hex (w.alloc (.cells #[.int .i64 a, .int .i64 b, .int .i64 c, .bool s, .slice xo xn xc, .slice yo yn yc] 59)) w.heap.size 0 ((a, b, c), s, (xo, xn, xc), (yo, yn, yc)) := Hex.fresh w ((a, b, c), s, (xo, xn, xc), (yo, yn, yc)) _
  have hr1 := hr.next hbel
  have i0 := idx0
  have i1 := idx1
  have i2 := idx2
  go_enter Tryz.func46, Tryz.ntmps46
  go_wp2_with fail
  go_loopw [7] (fun iv wr => ∃ k : Int, (0 ≤ k ∧ k ≤ 3) ∧ iv = .int .i64 k ∧ Hid ((1 ≤ k → 0 ≤ a ∧ a ≤ 5) ∧ (2 ≤ k → 0 ≤ b ∧ b ≤ 5) ∧ (3 ≤ k → 0 ≤ c ∧ c ≤ 5)) ∧ wr = w.alloc (.cells #[.int .i64 a, .int .i64 b, .int .i64 c, .bool s, .slice xo xn xc, .slice yo yn yc] 59)) (fun i _ => (3 - intOf i).toNat)
  case atStart => exact ⟨0, by omega, rfl, hid ⟨fun h => by omega, fun h => by omega, fun h => by omega⟩, rfl⟩
  case round =>
    obtain ⟨k, hk, rfl, Hk, rfl⟩ := hrel
    rcases (by omega : k = 0 ∨ k = 1 ∨ k = 2 ∨ k = 3) with rfl | rfl | rfl | rfl
    · by_cases h0 : a < 0
      · have hres := hid (hno.out a (by simp) (by omega))
        go_wp2_with fail
        go_ret
        exact ⟨retB hres.out.symm, hbel⟩
      · by_cases h5 : 5 < a
        · have hres := hid (hno.out a (by simp) (by omega))
          go_wp2_with fail
          go_ret
          exact ⟨retB hres.out.symm, hbel⟩
        · have hn : Hid (((1 : Int) ≤ 1 → 0 ≤ a ∧ a ≤ 5) ∧ ((2 : Int) ≤ 1 → 0 ≤ b ∧ b ≤ 5) ∧ ((3 : Int) ≤ 1 → 0 ≤ c ∧ c ≤ 5)) := hid (by have := Hk.out; omega)
          go_wp2_with fail
          go_roundw
          case rel => exact ⟨1, by omega, by go_num, hn, by trivial⟩
          case measure => simp [intOf]
    · by_cases h0 : b < 0
      · have hres := hid (hno.out b (by simp) (by omega))
        go_wp2_with fail
        go_ret
        exact ⟨retB hres.out.symm, hbel⟩
      · by_cases h5 : 5 < b
        · have hres := hid (hno.out b (by simp) (by omega))
          go_wp2_with fail
          go_ret
          exact ⟨retB hres.out.symm, hbel⟩
        · have hn : Hid (((1 : Int) ≤ 2 → 0 ≤ a ∧ a ≤ 5) ∧ ((2 : Int) ≤ 2 → 0 ≤ b ∧ b ≤ 5) ∧ ((3 : Int) ≤ 2 → 0 ≤ c ∧ c ≤ 5)) := hid (by have := Hk.out; omega)
          go_wp2_with fail
          go_roundw
          case rel => exact ⟨2, by omega, by go_num, hn, by trivial⟩
          case measure => simp [intOf]
    · by_cases h0 : c < 0
      · have hres := hid (hno.out c (by simp) (by omega))
        go_wp2_with fail
        go_ret
        exact ⟨retB hres.out.symm, hbel⟩
      · by_cases h5 : 5 < c
        · have hres := hid (hno.out c (by simp) (by omega))
          go_wp2_with fail
          go_ret
          exact ⟨retB hres.out.symm, hbel⟩
        · have hn : Hid (((1 : Int) ≤ 3 → 0 ≤ a ∧ a ≤ 5) ∧ ((2 : Int) ≤ 3 → 0 ≤ b ∧ b ≤ 5) ∧ ((3 : Int) ≤ 3 → 0 ≤ c ∧ c ≤ 5)) := hid (by have := Hk.out; omega)
          go_wp2_with fail
          go_roundw
          case rel => exact ⟨3, by omega, by go_num, hn, by trivial⟩
          case measure => simp [intOf]
    · have hall : (0 ≤ a ∧ a ≤ 5) ∧ (0 ≤ b ∧ b ≤ 5) ∧ (0 ≤ c ∧ c ≤ 5) := by have := Hk.out; omega
      have hy := hid (hyes.out hall)
      have hsm : smE (a, b, c) := by unfold smE; simp only; omega
      have Hsm := hid hsm
      clear Hk hno hyes hall hsm
      go_wp2_with fail
      refine (degree_any a b c Hsm.out _).mono ?_; rintro e1 w1 ⟨rfl, hb1⟩
      have hbel1 := below_chain hbel hb1
      have hr2 := hr1.next hb1
      obtain ⟨t0, t1, t2, t3, t4, t5⟩ := (hH.next hb1).cells
      by_cases hd : a + b + c ≤ 5
      · have hd1 : decide (a + b + c ≤ 5) = true := decide_eq_true hd
        rw [hd1, Bool.true_and] at hy
        go_wp2_with fail
        refine (ValidQ_any q _ _ hr2).mono ?_; rintro e2 w2 ⟨ok, rfl, hok, hb2⟩
        have hbel2 := below_chain hbel1 hb2
        have hr3 := hr2.next hb2
        obtain ⟨s0, s1, s2, s3, s4, s5⟩ := ((hH.next hb1).next hb2).cells
        have Hok := hid hok
        clear hok t0 t1 t2 t3 t4 t5
        cases ok with
        | false =>
          have hres : Hid (R = false) := hid (by rw [hy.out, decide_eq_false_iff_not]; simp [Hok.out rfl])
          go_wp2_with fail
          go_ret
          exact ⟨retB hres.out.symm, hbel2⟩
        | true =>
          have hsg := hid (rsg_ne (q := q))
          obtain ⟨g, hg⟩ : ∃ g, rsg q = g := ⟨_, rfl⟩
          have Hg := hid hg
          rw [hg] at hsg
          clear hg
          go_wp2_with fail
          refine (Sign_any q _ _ hr3).mono ?_; rw [Hg.out]; rintro e3 w3 ⟨rfl, hb3⟩
          have hbel3 := below_chain hbel2 hb3
          go_wp2_with fail
          go_ret
          exact ⟨retB (by rw [hy.out, ← hsg.out]), hbel3⟩
      · have hd1 : decide (a + b + c ≤ 5) = false := decide_eq_false hd
        rw [hd1, Bool.false_and] at hy
        go_wp2_with fail
        go_ret
        exact ⟨retB hy.out.symm, hbel1⟩
end Go.Proofs.YtgohfieleckmgaaGreatDoor
