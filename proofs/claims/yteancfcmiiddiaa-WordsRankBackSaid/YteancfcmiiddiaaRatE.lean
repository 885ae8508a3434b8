/-
  The contracts of rational.Add and Sub. No condition but sizes.
-/
import Derived.Test.YteancfcmiiddiaaRatD
namespace Go.Proofs.Yteancfcmiiddiaa
open Go.RowKit
set_option linter.unusedSimpArgs false
set_option linter.unusedVariables false

theorem RatV.shape {w : World} {v : Value} {q : Rat} (h : RatV w v q) : ∃ (s : Bool) (ao : Option Addr) (n cap : Nat) (bo : Option Addr) (m cap' : Nat), v = .agg #[.bool s, .slice ao n cap, .slice bo m cap'] := by
  obtain ⟨neg, N, D, ao, bo, n, cap, m, cap', rfl, _⟩ := h
  exact ⟨_, _, _, _, _, _, _, rfl⟩

theorem RatC.shape {w : World} {v : Value} {q : Rat} (h : RatC w v q) : ∃ (s : Bool) (ao : Option Addr) (n cap : Nat) (bo : Option Addr) (m cap' : Nat), v = .agg #[.bool s, .slice ao n cap, .slice bo m cap'] := by
  obtain ⟨ao, bo, n, cap, m, cap', rfl, _⟩ := h
  exact ⟨_, _, _, _, _, _, _, rfl⟩

section
variable {w : World} {G : Nat} {b0 : Bool} {a1 a2 : Option Addr} {n1 n2 k1 k2 : Nat} {w' w'' : World}
theorem Res.rc (h : Res w G b0 a1 n1 k1 a2 n2 k2 w') {q : Rat} {neg : Bool} {ao bo : Option Addr} {n cap m cap' : Nat} (C : RatC w' (.agg #[.bool neg, .slice ao n cap, .slice bo m cap']) q) :
    RatOut w q (.returned (.agg #[.bool neg, .slice ao n cap, .slice bo m cap'])) (((w'.setCell ⟨G, 0, none⟩ (.bool neg)).setCell ⟨G, 1, none⟩ (.slice ao n cap)).setCell ⟨G, 2, none⟩ (.slice bo m cap')) := by
  obtain ⟨ao', bo', n', cap1, m', cap2, hv, s1, s2, hz, hz'⟩ := C
  injection hv with hv
  injection hv with hv
  injection hv with e1 hv
  injection hv with e2 hv
  injection hv with e3 _
  injection e2 with e4 e5 e6
  injection e3 with e7 e8 e9
  subst e4 e5 e6 e7 e8 e9
  exact ⟨_, rfl, ⟨ao, bo, n, cap, m, cap', by rw [e1], s1.set3 (h.off s1) _ _ _, s2.set3 (h.off s2) _ _ _, hz, hz'⟩, below_set3 h.bel h.hG _ _ _⟩
end

set_option maxHeartbeats 4000000 in
theorem Add_any (q r : Rat) (v v2 : Value) (w : World) (h : RatV w v q) (h' : RatV w v2 r) (k : Nat) (hq : Fit k q) (hr' : Fit k r) (hk : k ≤ 4294967296) :
    Calls Try.prog 92 #[v, v2] w (RatOut w (q + r)) := by
  obtain ⟨s, ao, n, cap, bo, m, cap', rfl⟩ := h.shape
  obtain ⟨t, co, n2, cap2, eo, m2, cap3, rfl⟩ := h'.shape
  have hr := Res.start (((Below.refl w.heap.size w).alloc (Nat.le_refl _) (.cells #[.bool s, .slice ao n cap, .slice bo m cap'] 54)).alloc (by simp) (.cells #[.bool t, .slice co n2 cap2, .slice eo m2 cap3] 54)) false none 0 0 none 0 0 54
  have h0 : ((((w.alloc (.cells #[.bool s, .slice ao n cap, .slice bo m cap'] 54)).alloc (.cells #[.bool t, .slice co n2 cap2, .slice eo m2 cap3] 54)).alloc (.cells #[.bool false, .slice none 0 0, .slice none 0 0] 54)).cell? ⟨w.heap.size, 0, none⟩ = some (.bool s) ∧ (((w.alloc (.cells #[.bool s, .slice ao n cap, .slice bo m cap'] 54)).alloc (.cells #[.bool t, .slice co n2 cap2, .slice eo m2 cap3] 54)).alloc (.cells #[.bool false, .slice none 0 0, .slice none 0 0] 54)).cell? ⟨w.heap.size, 1, none⟩ = some (.slice ao n cap) ∧ (((w.alloc (.cells #[.bool s, .slice ao n cap, .slice bo m cap'] 54)).alloc (.cells #[.bool t, .slice co n2 cap2, .slice eo m2 cap3] 54)).alloc (.cells #[.bool false, .slice none 0 0, .slice none 0 0] 54)).cell? ⟨w.heap.size, 2, none⟩ = some (.slice bo m cap') ∧ (((w.alloc (.cells #[.bool s, .slice ao n cap, .slice bo m cap'] 54)).alloc (.cells #[.bool t, .slice co n2 cap2, .slice eo m2 cap3] 54)).alloc (.cells #[.bool false, .slice none 0 0, .slice none 0 0] 54)).cell? ⟨w.heap.size + 1, 0, none⟩ = some (.bool t) ∧ (((w.alloc (.cells #[.bool s, .slice ao n cap, .slice bo m cap'] 54)).alloc (.cells #[.bool t, .slice co n2 cap2, .slice eo m2 cap3] 54)).alloc (.cells #[.bool false, .slice none 0 0, .slice none 0 0] 54)).cell? ⟨w.heap.size + 1, 1, none⟩ = some (.slice co n2 cap2) ∧ (((w.alloc (.cells #[.bool s, .slice ao n cap, .slice bo m cap'] 54)).alloc (.cells #[.bool t, .slice co n2 cap2, .slice eo m2 cap3] 54)).alloc (.cells #[.bool false, .slice none 0 0, .slice none 0 0] 54)).cell? ⟨w.heap.size + 1, 2, none⟩ = some (.slice eo m2 cap3) ∧ Below w.heap.size w (((w.alloc (.cells #[.bool s, .slice ao n cap, .slice bo m cap'] 54)).alloc (.cells #[.bool t, .slice co n2 cap2, .slice eo m2 cap3] 54)).alloc (.cells #[.bool false, .slice none 0 0, .slice none 0 0] 54))) := ⟨by simp [go_sem], by simp [go_sem], by simp [go_sem], by simp [go_sem], by simp [go_sem], by simp [go_sem], hr.bel⟩
  simp only [World.size_alloc] at hr
  go_enter Try.func92, Try.ntmps92
  go_wp2_with fail
  generalize ((w.alloc (.cells #[.bool s, .slice ao n cap, .slice bo m cap'] 54)).alloc (.cells #[.bool t, .slice co n2 cap2, .slice eo m2 cap3] 54)).alloc (.cells #[.bool false, .slice none 0 0, .slice none 0 0] 54) = W at *
  have hK : ∀ w' w'', (w'.cell? ⟨w.heap.size, 0, none⟩ = some (.bool s) ∧ w'.cell? ⟨w.heap.size, 1, none⟩ = some (.slice ao n cap) ∧ w'.cell? ⟨w.heap.size, 2, none⟩ = some (.slice bo m cap') ∧ w'.cell? ⟨w.heap.size + 1, 0, none⟩ = some (.bool t) ∧ w'.cell? ⟨w.heap.size + 1, 1, none⟩ = some (.slice co n2 cap2) ∧ w'.cell? ⟨w.heap.size + 1, 2, none⟩ = some (.slice eo m2 cap3) ∧ Below w.heap.size w w') → Below w'.heap.size w' w'' → (w''.cell? ⟨w.heap.size, 0, none⟩ = some (.bool s) ∧ w''.cell? ⟨w.heap.size, 1, none⟩ = some (.slice ao n cap) ∧ w''.cell? ⟨w.heap.size, 2, none⟩ = some (.slice bo m cap') ∧ w''.cell? ⟨w.heap.size + 1, 0, none⟩ = some (.bool t) ∧ w''.cell? ⟨w.heap.size + 1, 1, none⟩ = some (.slice co n2 cap2) ∧ w''.cell? ⟨w.heap.size + 1, 2, none⟩ = some (.slice eo m2 cap3) ∧ Below w.heap.size w w'') := fun w' w'' h hb => ⟨cell_later hb h.1, cell_later hb h.2.1, cell_later hb h.2.2.1, cell_later hb h.2.2.2.1, cell_later hb h.2.2.2.2.1, cell_later hb h.2.2.2.2.2.1, below_chain h.2.2.2.2.2.2 hb⟩
  have hSt : ∀ w' (x y z : Value), (w'.cell? ⟨w.heap.size, 0, none⟩ = some (.bool s) ∧ w'.cell? ⟨w.heap.size, 1, none⟩ = some (.slice ao n cap) ∧ w'.cell? ⟨w.heap.size, 2, none⟩ = some (.slice bo m cap') ∧ w'.cell? ⟨w.heap.size + 1, 0, none⟩ = some (.bool t) ∧ w'.cell? ⟨w.heap.size + 1, 1, none⟩ = some (.slice co n2 cap2) ∧ w'.cell? ⟨w.heap.size + 1, 2, none⟩ = some (.slice eo m2 cap3) ∧ Below w.heap.size w w') → ((((w'.setCell ⟨w.heap.size + 1 + 1, 0, none⟩ x).setCell ⟨w.heap.size + 1 + 1, 1, none⟩ y).setCell ⟨w.heap.size + 1 + 1, 2, none⟩ z).cell? ⟨w.heap.size, 0, none⟩ = some (.bool s) ∧ (((w'.setCell ⟨w.heap.size + 1 + 1, 0, none⟩ x).setCell ⟨w.heap.size + 1 + 1, 1, none⟩ y).setCell ⟨w.heap.size + 1 + 1, 2, none⟩ z).cell? ⟨w.heap.size, 1, none⟩ = some (.slice ao n cap) ∧ (((w'.setCell ⟨w.heap.size + 1 + 1, 0, none⟩ x).setCell ⟨w.heap.size + 1 + 1, 1, none⟩ y).setCell ⟨w.heap.size + 1 + 1, 2, none⟩ z).cell? ⟨w.heap.size, 2, none⟩ = some (.slice bo m cap') ∧ (((w'.setCell ⟨w.heap.size + 1 + 1, 0, none⟩ x).setCell ⟨w.heap.size + 1 + 1, 1, none⟩ y).setCell ⟨w.heap.size + 1 + 1, 2, none⟩ z).cell? ⟨w.heap.size + 1, 0, none⟩ = some (.bool t) ∧ (((w'.setCell ⟨w.heap.size + 1 + 1, 0, none⟩ x).setCell ⟨w.heap.size + 1 + 1, 1, none⟩ y).setCell ⟨w.heap.size + 1 + 1, 2, none⟩ z).cell? ⟨w.heap.size + 1, 1, none⟩ = some (.slice co n2 cap2) ∧ (((w'.setCell ⟨w.heap.size + 1 + 1, 0, none⟩ x).setCell ⟨w.heap.size + 1 + 1, 1, none⟩ y).setCell ⟨w.heap.size + 1 + 1, 2, none⟩ z).cell? ⟨w.heap.size + 1, 2, none⟩ = some (.slice eo m2 cap3) ∧ Below w.heap.size w (((w'.setCell ⟨w.heap.size + 1 + 1, 0, none⟩ x).setCell ⟨w.heap.size + 1 + 1, 1, none⟩ y).setCell ⟨w.heap.size + 1 + 1, 2, none⟩ z)) := fun w' x y z h =>
    ⟨(cell_set3 (by omega) x y z).trans h.1, (cell_set3 (by omega) x y z).trans h.2.1, (cell_set3 (by omega) x y z).trans h.2.2.1, (cell_set3 (by omega) x y z).trans h.2.2.2.1, (cell_set3 (by omega) x y z).trans h.2.2.2.2.1, (cell_set3 (by omega) x y z).trans h.2.2.2.2.2.1, below_set3 h.2.2.2.2.2.2 (by omega) x y z⟩
  have h1 := hK W W.drew h0 (Below.refl _ W).drew
  have hr1 := hr.next (Below.refl _ W).drew
  have hA' : ∀ A : Nat, A ≤ q.num.natAbs * r.den + r.num.natAbs * q.den → lim A ≤ 17179869184 := fun A h => Nat.le_trans (lim_mono h) (Nat.le_trans (lim_add (k := k + k) (Nat.le_trans (lim_mul _ _) (Nat.add_le_add hq.1 hr'.2)) (Nat.le_trans (lim_mul _ _) (Nat.add_le_add hr'.1 hq.2))) (by omega))
  have hB' : lim (q.den * r.den) ≤ 17179869184 := Nat.le_trans (lim_mul _ _) (Nat.le_trans (Nat.add_le_add hq.2 hr'.2) (by omega))
  obtain ⟨hq1, hq2⟩ := hq
  obtain ⟨hr1', hr2''⟩ := hr'
  go_region_held3 (fun w' => (w'.cell? ⟨w.heap.size, 0, none⟩ = some (.bool s) ∧ w'.cell? ⟨w.heap.size, 1, none⟩ = some (.slice ao n cap) ∧ w'.cell? ⟨w.heap.size, 2, none⟩ = some (.slice bo m cap') ∧ w'.cell? ⟨w.heap.size + 1, 0, none⟩ = some (.bool t) ∧ w'.cell? ⟨w.heap.size + 1, 1, none⟩ = some (.slice co n2 cap2) ∧ w'.cell? ⟨w.heap.size + 1, 2, none⟩ = some (.slice eo m2 cap3) ∧ Below w.heap.size w w'))
    (first | assumption | exact hK _ _ (by assumption) hb1 | exact hK _ _ (by assumption) hb2 | exact hK _ _ (by assumption) hb3 | exact hK _ _ (by assumption) hb4 | exact hSt _ _ _ _ (by assumption) | exact hSt _ _ _ _ (hK _ _ h4 hb4))
    (first
      | (go_at_call_of 125 (Value.agg #[Value.bool s, Value.slice ao n cap, Value.slice bo m cap']); refine (of_any q _ _ (h.next h1.2.2.2.2.2.2)).mono ?_; rintro e w1 ⟨f1, rfl, F1, hb1⟩; have h2 := hK _ w1 h1 hb1; have hr2 := hr1.next hb1)
      | (go_at_call_of 125 (Value.agg #[Value.bool t, Value.slice co n2 cap2, Value.slice eo m2 cap3]); refine (of_any r _ _ (h'.next h2.2.2.2.2.2.2)).mono ?_; rintro e w2 ⟨f2, rfl, F2, hb2⟩; have h3 := hK _ w2 h2 hb2; have hr3' := hr2.next hb2)
      | (go_at_call 126; refine (fplus_any _ _ _ _ _ _ _ _ _ (F1.next hb2) F2 (by omega) (by omega) (by omega) (by omega)).mono ?_; rintro e w3 ⟨u, A, ⟨f3, rfl, F3, hb3⟩, hsum, hA⟩; have Hsum := hid hsum; clear hsum; have h4 := hK _ w3 h3 hb3; have hr3 := hr3'.next hb3)
      | (go_at_call 127; refine (rat_any _ _ _ _ _ F3 (hA' _ hA) hB').mono ?_; rintro e w4 ⟨v4, rfl, C4, hb4⟩; obtain ⟨rb, ro, rn, rc, so, sn, sc, rfl⟩ := C4.shape; have hr4 := hr3.next hb4; obtain ⟨d0, d1, d2, g0, g1, g2, _, _, _, _⟩ := hr3.next hb4))
  go_wp2_with fail
  refine bodyPost_ret (v := .agg #[.bool rb, .slice ro rn rc, .slice so sn sc]) (by simp [results, Try.results92, go_sem, d0, d1, d2]) rfl ?_
  have := hr4.rc C4
  rw [Hsum.out] at this
  rw [sgn_num, sgn_num, ← Rat.add_def'] at this
  exact this

set_option maxHeartbeats 4000000 in
theorem Sub_any (q r : Rat) (v v2 : Value) (w : World) (h : RatV w v q) (h' : RatV w v2 r) (k : Nat) (hq : Fit k q) (hr' : Fit k r) (hk : k ≤ 4294967296) :
    Calls Try.prog 130 #[v, v2] w (RatOut w (q - r)) := by
  obtain ⟨s, ao, n, cap, bo, m, cap', rfl⟩ := h.shape
  obtain ⟨t, co, n2, cap2, eo, m2, cap3, rfl⟩ := h'.shape
  have hr := Res.start (((Below.refl w.heap.size w).alloc (Nat.le_refl _) (.cells #[.bool s, .slice ao n cap, .slice bo m cap'] 54)).alloc (by simp) (.cells #[.bool t, .slice co n2 cap2, .slice eo m2 cap3] 54)) false none 0 0 none 0 0 54
  have h0 : ((((w.alloc (.cells #[.bool s, .slice ao n cap, .slice bo m cap'] 54)).alloc (.cells #[.bool t, .slice co n2 cap2, .slice eo m2 cap3] 54)).alloc (.cells #[.bool false, .slice none 0 0, .slice none 0 0] 54)).cell? ⟨w.heap.size, 0, none⟩ = some (.bool s) ∧ (((w.alloc (.cells #[.bool s, .slice ao n cap, .slice bo m cap'] 54)).alloc (.cells #[.bool t, .slice co n2 cap2, .slice eo m2 cap3] 54)).alloc (.cells #[.bool false, .slice none 0 0, .slice none 0 0] 54)).cell? ⟨w.heap.size, 1, none⟩ = some (.slice ao n cap) ∧ (((w.alloc (.cells #[.bool s, .slice ao n cap, .slice bo m cap'] 54)).alloc (.cells #[.bool t, .slice co n2 cap2, .slice eo m2 cap3] 54)).alloc (.cells #[.bool false, .slice none 0 0, .slice none 0 0] 54)).cell? ⟨w.heap.size, 2, none⟩ = some (.slice bo m cap') ∧ (((w.alloc (.cells #[.bool s, .slice ao n cap, .slice bo m cap'] 54)).alloc (.cells #[.bool t, .slice co n2 cap2, .slice eo m2 cap3] 54)).alloc (.cells #[.bool false, .slice none 0 0, .slice none 0 0] 54)).cell? ⟨w.heap.size + 1, 0, none⟩ = some (.bool t) ∧ (((w.alloc (.cells #[.bool s, .slice ao n cap, .slice bo m cap'] 54)).alloc (.cells #[.bool t, .slice co n2 cap2, .slice eo m2 cap3] 54)).alloc (.cells #[.bool false, .slice none 0 0, .slice none 0 0] 54)).cell? ⟨w.heap.size + 1, 1, none⟩ = some (.slice co n2 cap2) ∧ (((w.alloc (.cells #[.bool s, .slice ao n cap, .slice bo m cap'] 54)).alloc (.cells #[.bool t, .slice co n2 cap2, .slice eo m2 cap3] 54)).alloc (.cells #[.bool false, .slice none 0 0, .slice none 0 0] 54)).cell? ⟨w.heap.size + 1, 2, none⟩ = some (.slice eo m2 cap3) ∧ Below w.heap.size w (((w.alloc (.cells #[.bool s, .slice ao n cap, .slice bo m cap'] 54)).alloc (.cells #[.bool t, .slice co n2 cap2, .slice eo m2 cap3] 54)).alloc (.cells #[.bool false, .slice none 0 0, .slice none 0 0] 54))) := ⟨by simp [go_sem], by simp [go_sem], by simp [go_sem], by simp [go_sem], by simp [go_sem], by simp [go_sem], hr.bel⟩
  simp only [World.size_alloc] at hr
  go_enter Try.func130, Try.ntmps130
  go_wp2_with fail
  generalize ((w.alloc (.cells #[.bool s, .slice ao n cap, .slice bo m cap'] 54)).alloc (.cells #[.bool t, .slice co n2 cap2, .slice eo m2 cap3] 54)).alloc (.cells #[.bool false, .slice none 0 0, .slice none 0 0] 54) = W at *
  have hK : ∀ w' w'', (w'.cell? ⟨w.heap.size, 0, none⟩ = some (.bool s) ∧ w'.cell? ⟨w.heap.size, 1, none⟩ = some (.slice ao n cap) ∧ w'.cell? ⟨w.heap.size, 2, none⟩ = some (.slice bo m cap') ∧ w'.cell? ⟨w.heap.size + 1, 0, none⟩ = some (.bool t) ∧ w'.cell? ⟨w.heap.size + 1, 1, none⟩ = some (.slice co n2 cap2) ∧ w'.cell? ⟨w.heap.size + 1, 2, none⟩ = some (.slice eo m2 cap3) ∧ Below w.heap.size w w') → Below w'.heap.size w' w'' → (w''.cell? ⟨w.heap.size, 0, none⟩ = some (.bool s) ∧ w''.cell? ⟨w.heap.size, 1, none⟩ = some (.slice ao n cap) ∧ w''.cell? ⟨w.heap.size, 2, none⟩ = some (.slice bo m cap') ∧ w''.cell? ⟨w.heap.size + 1, 0, none⟩ = some (.bool t) ∧ w''.cell? ⟨w.heap.size + 1, 1, none⟩ = some (.slice co n2 cap2) ∧ w''.cell? ⟨w.heap.size + 1, 2, none⟩ = some (.slice eo m2 cap3) ∧ Below w.heap.size w w'') := fun w' w'' h hb => ⟨cell_later hb h.1, cell_later hb h.2.1, cell_later hb h.2.2.1, cell_later hb h.2.2.2.1, cell_later hb h.2.2.2.2.1, cell_later hb h.2.2.2.2.2.1, below_chain h.2.2.2.2.2.2 hb⟩
  have hSt : ∀ w' (x y z : Value), (w'.cell? ⟨w.heap.size, 0, none⟩ = some (.bool s) ∧ w'.cell? ⟨w.heap.size, 1, none⟩ = some (.slice ao n cap) ∧ w'.cell? ⟨w.heap.size, 2, none⟩ = some (.slice bo m cap') ∧ w'.cell? ⟨w.heap.size + 1, 0, none⟩ = some (.bool t) ∧ w'.cell? ⟨w.heap.size + 1, 1, none⟩ = some (.slice co n2 cap2) ∧ w'.cell? ⟨w.heap.size + 1, 2, none⟩ = some (.slice eo m2 cap3) ∧ Below w.heap.size w w') → ((((w'.setCell ⟨w.heap.size + 1 + 1, 0, none⟩ x).setCell ⟨w.heap.size + 1 + 1, 1, none⟩ y).setCell ⟨w.heap.size + 1 + 1, 2, none⟩ z).cell? ⟨w.heap.size, 0, none⟩ = some (.bool s) ∧ (((w'.setCell ⟨w.heap.size + 1 + 1, 0, none⟩ x).setCell ⟨w.heap.size + 1 + 1, 1, none⟩ y).setCell ⟨w.heap.size + 1 + 1, 2, none⟩ z).cell? ⟨w.heap.size, 1, none⟩ = some (.slice ao n cap) ∧ (((w'.setCell ⟨w.heap.size + 1 + 1, 0, none⟩ x).setCell ⟨w.heap.size + 1 + 1, 1, none⟩ y).setCell ⟨w.heap.size + 1 + 1, 2, none⟩ z).cell? ⟨w.heap.size, 2, none⟩ = some (.slice bo m cap') ∧ (((w'.setCell ⟨w.heap.size + 1 + 1, 0, none⟩ x).setCell ⟨w.heap.size + 1 + 1, 1, none⟩ y).setCell ⟨w.heap.size + 1 + 1, 2, none⟩ z).cell? ⟨w.heap.size + 1, 0, none⟩ = some (.bool t) ∧ (((w'.setCell ⟨w.heap.size + 1 + 1, 0, none⟩ x).setCell ⟨w.heap.size + 1 + 1, 1, none⟩ y).setCell ⟨w.heap.size + 1 + 1, 2, none⟩ z).cell? ⟨w.heap.size + 1, 1, none⟩ = some (.slice co n2 cap2) ∧ (((w'.setCell ⟨w.heap.size + 1 + 1, 0, none⟩ x).setCell ⟨w.heap.size + 1 + 1, 1, none⟩ y).setCell ⟨w.heap.size + 1 + 1, 2, none⟩ z).cell? ⟨w.heap.size + 1, 2, none⟩ = some (.slice eo m2 cap3) ∧ Below w.heap.size w (((w'.setCell ⟨w.heap.size + 1 + 1, 0, none⟩ x).setCell ⟨w.heap.size + 1 + 1, 1, none⟩ y).setCell ⟨w.heap.size + 1 + 1, 2, none⟩ z)) := fun w' x y z h =>
    ⟨(cell_set3 (by omega) x y z).trans h.1, (cell_set3 (by omega) x y z).trans h.2.1, (cell_set3 (by omega) x y z).trans h.2.2.1, (cell_set3 (by omega) x y z).trans h.2.2.2.1, (cell_set3 (by omega) x y z).trans h.2.2.2.2.1, (cell_set3 (by omega) x y z).trans h.2.2.2.2.2.1, below_set3 h.2.2.2.2.2.2 (by omega) x y z⟩
  have h1 := hK W W.drew h0 (Below.refl _ W).drew
  have hr1 := hr.next (Below.refl _ W).drew
  have hA' : ∀ A : Nat, A ≤ q.num.natAbs * r.den + r.num.natAbs * q.den → lim A ≤ 17179869184 := fun A h => Nat.le_trans (lim_mono h) (Nat.le_trans (lim_add (k := k + k) (Nat.le_trans (lim_mul _ _) (Nat.add_le_add hq.1 hr'.2)) (Nat.le_trans (lim_mul _ _) (Nat.add_le_add hr'.1 hq.2))) (by omega))
  have hB' : lim (q.den * r.den) ≤ 17179869184 := Nat.le_trans (lim_mul _ _) (Nat.le_trans (Nat.add_le_add hq.2 hr'.2) (by omega))
  obtain ⟨hq1, hq2⟩ := hq
  obtain ⟨hr1', hr2''⟩ := hr'
  go_region_held3 (fun w' => (w'.cell? ⟨w.heap.size, 0, none⟩ = some (.bool s) ∧ w'.cell? ⟨w.heap.size, 1, none⟩ = some (.slice ao n cap) ∧ w'.cell? ⟨w.heap.size, 2, none⟩ = some (.slice bo m cap') ∧ w'.cell? ⟨w.heap.size + 1, 0, none⟩ = some (.bool t) ∧ w'.cell? ⟨w.heap.size + 1, 1, none⟩ = some (.slice co n2 cap2) ∧ w'.cell? ⟨w.heap.size + 1, 2, none⟩ = some (.slice eo m2 cap3) ∧ Below w.heap.size w w'))
    (first | assumption | exact hK _ _ (by assumption) hb1 | exact hK _ _ (by assumption) hb2 | exact hK _ _ (by assumption) hbn | exact hK _ _ (by assumption) hb3 | exact hK _ _ (by assumption) hb4 | exact hSt _ _ _ _ (by assumption) | exact hSt _ _ _ _ (hK _ _ h4 hb4))
    (first
      | (go_at_call_of 125 (Value.agg #[Value.bool s, Value.slice ao n cap, Value.slice bo m cap']); refine (of_any q _ _ (h.next h1.2.2.2.2.2.2)).mono ?_; rintro e w1 ⟨f1, rfl, F1, hb1⟩; have h2 := hK _ w1 h1 hb1; have hr2 := hr1.next hb1)
      | (go_at_call_of 125 (Value.agg #[Value.bool t, Value.slice co n2 cap2, Value.slice eo m2 cap3]); refine (of_any r _ _ (h'.next h2.2.2.2.2.2.2)).mono ?_; rintro e w2 ⟨f2, rfl, F2, hb2⟩; have h3' := hK _ w2 h2 hb2; have hr2' := hr2.next hb2)
      | (go_at_call 151; refine (negative_any _ _ _ _ _ F2).mono ?_; rintro e wn ⟨f2', rfl, F2', hbn⟩; have h3 := hK _ wn h3' hbn; have hr3' := hr2'.next hbn)
      | (go_at_call 126; refine (fplus_any _ _ _ _ _ _ _ _ _ ((F1.next hb2).next hbn) F2' (by omega) (by omega) (by omega) (by omega)).mono ?_; rintro e w3 ⟨u, A, ⟨f3, rfl, F3, hb3⟩, hsum, hA⟩; have Hsum := hid hsum; clear hsum; have h4 := hK _ w3 h3 hb3; have hr3 := hr3'.next hb3)
      | (go_at_call 127; refine (rat_any _ _ _ _ _ F3 (hA' _ hA) hB').mono ?_; rintro e w4 ⟨v4, rfl, C4, hb4⟩; obtain ⟨rb, ro, rn, rc, so, sn, sc, rfl⟩ := C4.shape; have hr4 := hr3.next hb4; obtain ⟨d0, d1, d2, g0, g1, g2, _, _, _, _⟩ := hr3.next hb4))
  go_wp2_with fail
  refine bodyPost_ret (v := .agg #[.bool rb, .slice ro rn rc, .slice so sn sc]) (by simp [results, Try.results130, go_sem, d0, d1, d2]) rfl ?_
  have := hr4.rc C4
  rw [Hsum.out] at this
  rw [sgn_not, sgn_num, sgn_num, Int.neg_mul, ← Int.sub_eq_add_neg, ← Rat.sub_def'] at this
  exact this

end Go.Proofs.Yteancfcmiiddiaa
