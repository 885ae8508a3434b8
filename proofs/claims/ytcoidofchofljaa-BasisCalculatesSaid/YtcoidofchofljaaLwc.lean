/-
  The walk of BasisGrows. No condition.
-/
import Derived.Test.YtcoidofchofljaaLwb
import Derived.Test.YtcoidofchofljaaRru
import Derived.IntWalk
namespace Go.Proofs.Ytcoidofchofljaa
open Go.RowKit
set_option linter.unusedSimpArgs false
set_option linter.unusedVariables false

theorem fit_made (raw : List Int) (k : Nat) (i j : Nat) : Fit 2 (madeF raw k i j) := by
  unfold madeF numQ
  refine fit_small (by omega) ?_
  have h1 := Int.emod_lt_of_pos (Int.tdiv (raw.getD (i * k + j) 0) 13) (show (0 : Int) < 3 by decide)
  have h2 := Int.emod_nonneg (Int.tdiv (raw.getD (i * k + j) 0) 13) (show (3 : Int) ≠ 0 by decide)
  omega

theorem lv_small {m : Nat} (h : m ≤ 6) : lv 2 m ≤ 500000 := Nat.le_trans (lv_le h) (by decide)
theorem lv_small2 {m : Nat} (h : m ≤ 6) : lv 2 m ≤ 1000000 := Nat.le_trans (lv_small h) (by decide)
theorem okL_const {k : Nat} (h1 : 1 ≤ k) (h2 : k ≤ 64) (m : Nat) : OkL m (fun _ => k) := fun i _ => ⟨⟨h1, h2⟩, rfl⟩
theorem fits_const {k : Nat} (h1 : 1 ≤ k) (h2 : k ≤ 64) (m : Nat) : fitsB m (fun _ => k) k = true := by unfold fitsB; simp [h1, h2]
theorem fit_upd {F : Nat → V} {G : V} {m K : Nat} (h : ∀ i j, Fit K (F i j)) (hG : ∀ j, Fit K (G j)) : ∀ i j, Fit K (updF F m G i j) := by
  intro i j; unfold updF; split
  · exact hG j
  · exact h i j

/-- A grown basis is one. -/
theorem rowsK_grown {n m : Nat} {F : Nat → V} {G : V} {st : List Row} {r : Row} (h : rowsK n F m = some st) (ha : addV n st G = some r) : rowsK n (updF F m G) (m + 1) = some (st ++ [r]) := by
  have he : ∀ k, k ≤ m → rowsK n (updF F m G) k = rowsK n F k := by
    intro k
    induction k with
    | zero => intro _; rfl
    | succ k ih =>
      intro hk
      simp only [rowsK, ih (by omega)]
      have : updF F m G k = F k := by unfold updF; rw [if_neg (by omega)]
      rw [this]
  have h1 := he m (Nat.le_refl _)
  rw [h] at h1
  refine rowsK_some h1 ?_
  have : updF F m G m = G := by unfold updF; rw [if_pos rfl]
  rw [this]; exact ha

/-- A vector that was added is not added again. -/
theorem add_again {n m : Nat} {F : Nat → V} {G : V} {st : List Row} {r : Row} (h : rowsK n F m = some st) (ha : addV n st G = some r) : addV n (st ++ [r]) G = none := by
  have hg := (rowsK_good h).snoc ha
  have hu := hg.unit (((List.range m).map F).length) G (by simp)
  rw [addV_none]
  intro i _
  rw [hu]; rfl

/-- Inserting what is no news. -/
theorem insert_old (ao : Option Addr) (m cap k : Nat) (F : Nat → V) (bo : Option Addr) (cap' : Nat) (G : V) (w : World) (st : List Row) (h : Mat RatC w ao m cap (fun _ => k) F) (h' : Vec RatC w bo k cap' G) (hm : m ≤ 6) (hk1 : 1 ≤ k) (hk2 : k ≤ 4)
    (hF : ∀ i j, Fit 2 (F i j)) (hG : ∀ j, Fit 2 (G j)) (hst : rowsK k F m = some st) (ha : addV k st G = none) :
    Calls Try.prog 18 #[.slice ao m cap, .slice bo k cap'] w fun e w' => ∃ v, e = .returned (.tuple #[v, .bool false, .int .i64 0]) ∧ MOwn w' w.heap.size v m (fun _ => k) F ∧ Below w.heap.size w w' := by
  refine (Insert_any 2 ao m cap (fun _ => k) F bo k cap' G w (h.toV (fun i _ j _ => hF i j) (by decide)) (h'.toV (fun j _ => hG j) (by decide)) (by omega) (fun _ _ => by show k ≤ 100000; omega) (by show k ≤ 100000; omega) (by omega) (by decide) (fun i _ j _ => hF i j) (fun j _ => hG j) (lv_small2 hm) (by decide)).mono ?_
  rintro e w' (⟨hno, _⟩ | ⟨st', _, hno, _⟩ | ⟨st', v, _, _, _, rfl, hown, hb⟩ | ⟨st', r, v, ⟨_, hst'⟩, _, hadd, _⟩)
  · rw [hno (okL_const hk1 (by omega) m)] at hst; cases hst
  · rw [fits_const hk1 (by omega) m] at hno; cases hno
  · exact ⟨v, rfl, hown, hb⟩
  · rw [hst] at hst'
    injection hst' with hst'
    subst hst'
    rw [ha] at hadd; cases hadd

set_option maxHeartbeats 4000000 in
theorem walkGrows (w : World) (a : Int) (ha : 0 ≤ a ∧ a ≤ 255) (b : Int) (hb : 0 ≤ b ∧ b ≤ 255) (u : List Int) (ao : Option Addr) (r cap : Nat) (hU : Sl w ao r cap (u.map (.int .i64))) (hu : (ao = none → cap = 0) ∧ ∀ z ∈ u, -9223372036854775808 ≤ z ∧ z ≤ 9223372036854775807)
    (v : List Int) (bo : Option Addr) (s cap' : Nat) (hV : Sl w bo s cap' (v.map (.int .i64))) (hv : (bo = none → cap' = 0) ∧ ∀ z ∈ v, -9223372036854775808 ≤ z ∧ z ≤ 9223372036854775807) :
    Calls Try.prog 6 #[.int .u8 a, .int .u8 b, .slice ao r cap, .slice bo s cap'] w fun e w' => e = .returned (.bool true) ∧ Below w.heap.size w w' := by
  have hr := hU.bound
  have hs := hV.bound
  have Hu := hid hu.2
  have Hv := hid hv.2
  clear hu hv
  obtain ⟨A, rfl⟩ := Int.eq_ofNat_of_zero_le ha.1
  obtain ⟨B, rfl⟩ := Int.eq_ofNat_of_zero_le hb.1
  obtain ⟨m, hm⟩ : ∃ m, A % 5 = m := ⟨_, rfl⟩
  obtain ⟨k0, hk0⟩ : ∃ k, B % 4 = k := ⟨_, rfl⟩
  have hm5 : m ≤ 4 := by omega
  have hk4 : k0 ≤ 3 := by omega
  have e1 : Int.tmod (A : Int) 5 = (m : Int) := by rw [← hm]; simp [Int.tmod]
  have e2 : Int.tmod (B : Int) 4 = (k0 : Int) := by rw [← hk0]; simp [Int.tmod]
  have e3 : (A : Int) % 5 = (m : Int) := by omega
  have e4 : (B : Int) % 4 = (k0 : Int) := by omega
  clear hm hk0
  obtain ⟨k, hk⟩ : ∃ k, k0 + 1 = k := ⟨_, rfl⟩
  have e5 : (1 : Int) + (k0 : Int) = (k : Int) := by omega
  have hk2 : k ≤ 4 := by omega
  have hk1 : 1 ≤ k := by omega
  clear hk
  go_enter Try.func6, Try.ntmps6
  go_wp2_with fail
  refine (vectors_any m k (by omega) (by omega) u Hu.out _ _ _ _ hU).mono ?_; rintro e w1 ⟨v1, rfl, o1, hb1⟩
  obtain ⟨ao1, cap1, rfl, M1⟩ := o1.mat
  have hV1 := hV.next hb1
  clear o1
  go_wp2_with fail
  refine (vectors_any 1 k (by omega) (by omega) v Hv.out _ _ _ _ hV1).mono ?_; rintro e w2 ⟨v2, rfl, o2, hb2⟩
  obtain ⟨ao2, cap2, rfl, M2⟩ := o2.mat
  obtain ⟨b2, q2, rfl, ro, rc, hc2, hG⟩ := M2.get (show 0 < 1 by decide)
  have hc2 : w2.cell? ⟨b2, q2, none⟩ = some (.slice ro k rc) := hc2
  have M1 := M1.nextC hb2
  have hbel2 := below_chain hb1 hb2
  clear o2 hV1 M2
  have hfit : ∀ i j, Fit 2 (madeF u k i j) := fun i j => fit_made u k i j
  have Hfit := hid hfit
  have hval := hid (rValidB_any 2 ao1 m cap1 (fun _ => k) (madeF u k) w2 (M1.toV (fun i _ j _ => hfit i j) (by decide)) (by omega) (fun _ _ => by show k ≤ 100000; omega) (by decide) (fun i _ j _ => hfit i j) (lv_small (by omega)))
  clear hfit
  cases hB : basisB m (fun _ => k) (madeF u k) with
  | false =>
    rw [hB] at hval
    clear hB
    go_wp2_with fail
    refine hval.out.mono ?_; rintro e w3 ⟨rfl, hb3⟩
    have hbel3 := below_chain hbel2 hb3
    go_wp2_with fail
    refine (awake_any _).mono ?_; rintro e w4 ⟨rfl, hb4⟩
    have hbel4 := below_chain hbel3 hb4
    go_wp2_with fail
    go_ret
    exact ⟨rfl, hbel4⟩
  | true =>
    rw [hB] at hval
    obtain ⟨_, st, hst⟩ := basisB_true hB
    have Hst := hid (show rowsK k (madeF u k) m = some st from hst)
    clear hB hst
    go_wp2_with fail
    refine hval.out.mono ?_; rintro e w3 ⟨rfl, hb3⟩
    have hbel3 := below_chain hbel2 hb3
    have M1 := M1.nextC hb3
    have hG := hG.nextC hb3
    have hins := hid (Insert_any 2 ao1 m cap1 (fun _ => k) (madeF u k) ro k rc (madeF v k 0) w3 (M1.toV (fun i _ j _ => Hfit.out i j) (by decide)) (hG.toV (fun j _ => fit_made v k 0 j) (by decide)) (by omega) (fun _ _ => by show k ≤ 100000; omega) (by show k ≤ 100000; omega) (by omega) (by decide) (fun i _ j _ => Hfit.out i j) (fun j _ => fit_made v k 0 j) (lv_small2 (by omega)) (by decide))
    go_wp2_with fail
    refine hins.out.mono ?_; rintro e w4 (⟨hno, _⟩ | ⟨st', _, hno, _⟩ | ⟨st', v4, ⟨_, hst'⟩, _, hadd, rfl, o4, hb4⟩ | ⟨st', r4, v4, ⟨_, hst'⟩, _, hadd, rfl, o4, hb4⟩)
    case inl => rw [hno (okL_const hk1 (by omega) m)] at Hst; cases Hst.out
    case inr.inl => rw [fits_const hk1 (by omega) m] at hno; cases hno
    all_goals
      rw [Hst.out] at hst'
      injection hst' with hst'
      subst hst'
      have Hadd := hid hadd
      clear hadd
    · obtain ⟨ao4, cap4, rfl, M4⟩ := o4.mat
      have G4 := hG.nextC hb4
      have hbel4 := below_chain hbel3 hb4
      have hins := hid (insert_old ao4 (m) cap4 k (madeF u k) ro rc (madeF v k 0) w4 st M4 G4 (by omega) hk1 hk2 Hfit.out (fun j => fit_made v k 0 j) Hst.out Hadd.out)
      clear o4
      go_wp2_with fail
      refine hins.out.mono ?_; rintro e w5 ⟨v5, rfl, o5, hb5⟩
      obtain ⟨ao5, cap5, rfl, M5⟩ := o5.mat
      have M4 := M4.nextC hb5
      have hbel5 := below_chain hbel4 hb5
      clear o5
      go_wp2_with fail
      refine (awake_any _).mono ?_; rintro e w6 ⟨rfl, hb6⟩
      have M4 := M4.nextC hb6
      have M5 := M5.nextC hb6
      have hbel6 := below_chain hbel5 hb6
      have hval := hid (Valid_basis 2 ao4 (m) cap4 (fun _ => k) (madeF u k) w6 (M4.toV (fun i _ j _ => Hfit.out i j) (by decide)) (by omega) (fun _ _ => by show k ≤ 100000; omega) (by decide) (fun i _ j _ => Hfit.out i j) (lv_small2 (by omega)))
      rw [basisB_of (okL_const hk1 (by omega) _) Hst.out] at hval
      go_wp2_with fail
      refine hval.out.mono ?_; rintro e w7 ⟨rfl, hb7⟩
      have M4 := M4.nextC hb7
      have M5 := M5.nextC hb7
      have hbel7 := below_chain hbel6 hb7
      go_wp2_with fail
      refine (sameM_any (m) (fun _ => k) (madeF u k) (madeF u k) (fun _ _ _ _ => rfl) _ _ _ _ _ M4 M5).mono ?_; rintro e w8 ⟨rfl, hb8⟩
      have hbel8 := below_chain hbel7 hb8
      go_wp2_with fail
      go_ret
      exact ⟨rfl, hbel8⟩
    · have Hst2 := hid (rowsK_grown Hst.out Hadd.out)
      have Hadd2 := hid (add_again Hst.out Hadd.out)
      have Hfit2 := hid (fit_upd (m := m) Hfit.out (fun j => fit_made v k 0 j))
      have o4 : MOwn w4 w3.heap.size v4 (m + 1) (fun _ => k) (updF (madeF u k) m (madeF v k 0)) := o4.congr (fun i _ => by unfold updN; split <;> rfl) (fun _ _ _ _ => rfl)
      obtain ⟨ao4, cap4, rfl, M4⟩ := o4.mat
      have G4 := hG.nextC hb4
      have hbel4 := below_chain hbel3 hb4
      have hins := hid (insert_old ao4 (m + 1) cap4 k (updF (madeF u k) m (madeF v k 0)) ro rc (madeF v k 0) w4 (st ++ [r4]) M4 G4 (by omega) hk1 hk2 Hfit2.out (fun j => fit_made v k 0 j) Hst2.out Hadd2.out)
      clear o4
      go_wp2_with fail
      refine hins.out.mono ?_; rintro e w5 ⟨v5, rfl, o5, hb5⟩
      obtain ⟨ao5, cap5, rfl, M5⟩ := o5.mat
      have M4 := M4.nextC hb5
      have hbel5 := below_chain hbel4 hb5
      clear o5
      go_wp2_with fail
      refine (awake_any _).mono ?_; rintro e w6 ⟨rfl, hb6⟩
      have M4 := M4.nextC hb6
      have M5 := M5.nextC hb6
      have hbel6 := below_chain hbel5 hb6
      have hval := hid (Valid_basis 2 ao4 (m + 1) cap4 (fun _ => k) (updF (madeF u k) m (madeF v k 0)) w6 (M4.toV (fun i _ j _ => Hfit2.out i j) (by decide)) (by omega) (fun _ _ => by show k ≤ 100000; omega) (by decide) (fun i _ j _ => Hfit2.out i j) (lv_small2 (by omega)))
      rw [basisB_of (okL_const hk1 (by omega) _) Hst2.out] at hval
      go_wp2_with fail
      refine hval.out.mono ?_; rintro e w7 ⟨rfl, hb7⟩
      have M4 := M4.nextC hb7
      have M5 := M5.nextC hb7
      have hbel7 := below_chain hbel6 hb7
      go_wp2_with fail
      refine (sameM_any (m + 1) (fun _ => k) (updF (madeF u k) m (madeF v k 0)) (updF (madeF u k) m (madeF v k 0)) (fun _ _ _ _ => rfl) _ _ _ _ _ M4 M5).mono ?_; rintro e w8 ⟨rfl, hb8⟩
      have hbel8 := below_chain hbel7 hb8
      go_wp2_with fail
      go_ret
      exact ⟨rfl, hbel8⟩

end Go.Proofs.Ytcoidofchofljaa
