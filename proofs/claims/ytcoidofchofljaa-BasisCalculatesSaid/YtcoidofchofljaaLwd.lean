/-
  The walk of BasisFindsCoordinates. No condition.
-/
import Derived.Test.YtcoidofchofljaaLwc
namespace Go.Proofs.Ytcoidofchofljaa
open Go.RowKit
set_option linter.unusedSimpArgs false
set_option linter.unusedVariables false

/-- Inserting what is no news, at any size. -/
theorem insert_oldK (K : Nat) (ao : Option Addr) (m cap k : Nat) (F : Nat → V) (bo : Option Addr) (cap' : Nat) (G : V) (w : World) (st : List Row) (h : Mat RatC w ao m cap (fun _ => k) F) (h' : Vec RatC w bo k cap' G) (hm : m ≤ 6) (hk1 : 1 ≤ k) (hk2 : k ≤ 4) (hK : 1 ≤ K) (hK2 : K ≤ 1000000) (hbig : lv K m ≤ 1000000)
    (hF : ∀ i j, Fit K (F i j)) (hG : ∀ j, j < k → Fit K (G j)) (hst : rowsK k F m = some st) (ha : addV k st G = none) :
    Calls Try.prog 18 #[.slice ao m cap, .slice bo k cap'] w fun e w' => ∃ v, e = .returned (.tuple #[v, .bool false, .int .i64 0]) ∧ MOwn w' w.heap.size v m (fun _ => k) F ∧ Below w.heap.size w w' := by
  refine (Insert_any K ao m cap (fun _ => k) F bo k cap' G w (h.toV (fun i _ j _ => hF i j) (by omega)) (h'.toV hG (by omega)) (by omega) (fun _ _ => by show k ≤ 100000; omega) (by show k ≤ 100000; omega) (by omega) hK (fun i _ j _ => hF i j) hG hbig hK2).mono ?_
  rintro e w' (⟨hno, _⟩ | ⟨st', _, hno, _⟩ | ⟨st', v, _, _, _, rfl, hown, hb⟩ | ⟨st', r, v, ⟨_, hst'⟩, _, hadd, _⟩)
  · rw [hno (okL_const hk1 (by omega) m)] at hst; cases hst
  · rw [fits_const hk1 (by omega) m] at hno; cases hno
  · exact ⟨v, rfl, hown, hb⟩
  · rw [hst] at hst'
    injection hst' with hst'
    subst hst'
    rw [ha] at hadd; cases hadd

/-- The multipliers of a vector that a basis explains. -/
theorem coord_old (K : Nat) (ao : Option Addr) (m cap k : Nat) (F : Nat → V) (bo : Option Addr) (cap' : Nat) (G : V) (w : World) (st : List Row) (h : Mat RatC w ao m cap (fun _ => k) F) (h' : Vec RatC w bo k cap' G) (hm : m ≤ 6) (hk1 : 1 ≤ k) (hk2 : k ≤ 4) (hK : 1 ≤ K) (hK2 : K ≤ 1000000) (hbig : lv K m ≤ 1000000)
    (hF : ∀ i j, Fit K (F i j)) (hG : ∀ j, j < k → Fit K (G j)) (hst : rowsK k F m = some st) (hz : ∀ i, i < k → (red st G).1 i = 0) :
    Calls Try.prog 11 #[.slice ao m cap, .slice bo k cap'] w fun e w' => ∃ v, e = .returned (.tuple #[v, .bool true, .int .i64 0]) ∧ VOwn w' w.heap.size v m (red st G).2 ∧ Below w.heap.size w w' := by
  refine (Coordinates_any K ao m cap (fun _ => k) F bo k cap' G w (h.toV (fun i _ j _ => hF i j) (by omega)) (h'.toV hG (by omega)) (by omega) (fun _ _ => by show k ≤ 100000; omega) (by show k ≤ 100000; omega) (by omega) hK (fun i _ j _ => hF i j) hG hbig).mono ?_
  rintro e w' (⟨hno, _⟩ | ⟨st', _, hno, _⟩ | ⟨st', p, ⟨_, hst'⟩, _, hld, _⟩ | ⟨st', v, ⟨_, hst'⟩, _, _, rfl, hown, hb⟩)
  · rw [hno (okL_const hk1 (by omega) m)] at hst; cases hst
  · rw [fits_const hk1 (by omega) m] at hno; cases hno
  · rw [hst] at hst'
    injection hst' with hst'
    subst hst'
    rw [leadOf_no hz] at hld; cases hld
  · rw [hst] at hst'
    injection hst' with hst'
    subst hst'
    exact ⟨v, rfl, hown, hb⟩

/-- Made multipliers. -/
def wantV (l : List Int) : V := fun i => numQ (l.getD i 0)
theorem fit_want (l : List Int) (i : Nat) : Fit 2 (wantV l i) := by
  unfold wantV numQ
  refine fit_small (by omega) ?_
  have h1 := Int.emod_lt_of_pos (Int.tdiv (l.getD i 0) 13) (show (0 : Int) < 3 by decide)
  have h2 := Int.emod_nonneg (Int.tdiv (l.getD i 0) 13) (show (3 : Int) ≠ 0 by decide)
  omega

theorem red_sum {n m : Nat} {F : Nat → V} {st : List Row} (h : rowsK n F m = some st) (C : V) : red st (sumK F C m) = (zeroV, fun i => if i < m then C i else 0) := by
  have hf := (rowsK_good h).find C m (by simp)
  rw [List.take_of_length_le (by simp)] at hf
  rw [sumK_lin]; exact hf

set_option maxHeartbeats 4000000 in
theorem walkFinds (w : World) (a : Int) (ha : 0 ≤ a ∧ a ≤ 255) (b : Int) (hb : 0 ≤ b ∧ b ≤ 255) (u : List Int) (ao : Option Addr) (r cap : Nat) (hU : Sl w ao r cap (u.map (.int .i64))) (hu : (ao = none → cap = 0) ∧ ∀ z ∈ u, -9223372036854775808 ≤ z ∧ z ≤ 9223372036854775807)
    (v : List Int) (bo : Option Addr) (s cap' : Nat) (hV : Sl w bo s cap' (v.map (.int .i64))) (hv : (bo = none → cap' = 0) ∧ ∀ z ∈ v, -9223372036854775808 ≤ z ∧ z ≤ 9223372036854775807) :
    Calls Try.prog 4 #[.int .u8 a, .int .u8 b, .slice ao r cap, .slice bo s cap'] w fun e w' => e = .returned (.bool true) ∧ Below w.heap.size w w' := by
  have hr := hU.bound
  have hs := hV.bound
  have Hu := hid hu.2
  have Hv : Hid (∀ i, -9223372036854775808 ≤ v.getD i 0 ∧ v.getD i 0 ≤ 9223372036854775807) := hid (fun i => by
    rw [List.getD_eq_getElem?_getD]
    cases hx : v[i]? with
    | none => simp
    | some x => exact hv.2 x (List.mem_of_getElem? hx))
  clear hu hv
  obtain ⟨A, rfl⟩ := Int.eq_ofNat_of_zero_le ha.1
  obtain ⟨B, rfl⟩ := Int.eq_ofNat_of_zero_le hb.1
  obtain ⟨m, hm⟩ : ∃ m, A % 5 = m := ⟨_, rfl⟩
  obtain ⟨k0, hk0⟩ : ∃ k, B % 4 = k := ⟨_, rfl⟩
  have hm5 : m ≤ 4 := by omega
  have hk4 : k0 ≤ 3 := by omega
  have e1 : Int.tmod (A : Int) 5 = (m : Int) := by rw [← hm]; simp [Int.tmod]
  have e2 : Int.tmod (B : Int) 4 = (k0 : Int) := by rw [← hk0]; simp [Int.tmod]
  have e3 : (A : Int) % 5 = (m : Int) := by omega
  have e4 : (B : Int) % 4 = (k0 : Int) := by omega
  clear hm hk0
  obtain ⟨k, hk⟩ : ∃ k, k0 + 1 = k := ⟨_, rfl⟩
  have e5 : (1 : Int) + (k0 : Int) = (k : Int) := by omega
  have hk2 : k ≤ 4 := by omega
  have hk1 : 1 ≤ k := by omega
  clear hk
  go_enter Try.func4, Try.ntmps4
  go_wp2_with fail
  refine (vectors_any m k (by omega) (by omega) u Hu.out _ _ _ _ hU).mono ?_; rintro e w1 ⟨v1, rfl, o1, hb1⟩
  obtain ⟨ao1, cap1, rfl, M1⟩ := o1.mat
  clear o1
  have hfit : ∀ i j, Fit 2 (madeF u k i j) := fun i j => fit_made u k i j
  have Hfit := hid hfit
  have hval := hid (rValidB_any 2 ao1 m cap1 (fun _ => k) (madeF u k) w1 (M1.toV (fun i _ j _ => hfit i j) (by decide)) (by omega) (fun _ _ => by show k ≤ 100000; omega) (by decide) (fun i _ j _ => hfit i j) (lv_small (by omega)))
  clear hfit
  cases hB : basisB m (fun _ => k) (madeF u k) with
  | false =>
    rw [hB] at hval
    clear hB
    go_wp2_with fail
    refine hval.out.mono ?_; rintro e w3 ⟨rfl, hb3⟩
    have hbel3 := below_chain hb1 hb3
    go_wp2_with fail
    refine (awake_any _).mono ?_; rintro e w4 ⟨rfl, hb4⟩
    have hbel4 := below_chain hbel3 hb4
    go_wp2_with fail
    go_ret
    exact ⟨rfl, hbel4⟩
  | true =>
    rw [hB] at hval
    obtain ⟨_, st, hst⟩ := basisB_true hB
    have Hst := hid (show rowsK k (madeF u k) m = some st from hst)
    clear hB hst
    go_wp2_with fail
    refine hval.out.mono ?_; rintro e w3 ⟨rfl, hb3⟩
    have hbel3 := below_chain hb1 hb3
    have M3 := M1.nextC hb3
    have hV3 := hV.next hbel3
    clear M1 hval
    go_wp2_with fail
    go_loopw [13, 12] (fun iv ov wr => ∃ i : Nat, i ≤ m ∧ iv = .int .i64 i ∧ VOwn wr w3.heap.size ov i (wantV v) ∧ Below w3.heap.size w3 wr) (fun i _ _ => m - (intOf i).toNat)
    case atStart => exact ⟨0, by omega, rfl, VOwn.nil _ _ _, Below.refl _ _⟩
    case round =>
      obtain ⟨i, hi, rfl, hown, hbel⟩ := hrel
      by_cases hlt : i < m
      · obtain ⟨x, hx⟩ : ∃ x, v.getD i 0 = x := ⟨_, rfl⟩
        obtain ⟨x1, x2⟩ := Hv.out i
        have hat := at_any' v i (by omega) _ _ _ _ (hV3.next hbel)
        have hval2 : Hid (wantV v i = numQ x) := hid (by unfold wantV; rw [hx])
        rw [hx] at hat x1 x2
        have Hat := hid hat
        clear hx hat
        go_wp2_with fail
        refine Hat.out.mono ?_; rintro e w4 ⟨rfl, rfl⟩
        go_wp2_with fail
        refine (number_any x x1 x2 _).mono ?_; rintro e w5 ⟨v5, rfl, C5, hb5⟩
        rw [← hval2.out] at C5
        have hbel5 := below_chain hbel hb5
        have hown5 := hown.next hb5
        obtain ⟨rb, ro, rn, rc, so, sn, sc, rfl⟩ := C5.shape
        have C6 := C5.next (below_alloc (.cells #[.bool rb, .slice ro rn rc, .slice so sn sc] 39))
        have hown6 := hown5.next (below_alloc (.cells #[.bool rb, .slice ro rn rc, .slice so sn sc] 39))
        have hc3 : C3 w5.heap.size (.bool rb) (.slice ro rn rc) (.slice so sn sc) (w5.alloc (.cells #[.bool rb, .slice ro rn rc, .slice so sn sc] 39)) := ⟨by simp [go_sem], by simp [go_sem], by simp [go_sem]⟩
        clear hown hown5 C5 Hat
        go_wp2_with (at_builtin; go_loud (refine wp_appV rfl (.tmp 40) (.tmp 45) rfl w3.heap.size _ i (wantV v) rfl hown6 w5.heap.size 1 rfl rb ro rn rc so sn sc hc3 (wantV v i) C6 (by omega) (by have := hbel5.size; simp only [World.size_alloc]; omega) ?_))
        intro v' w8 hown8 hg8 hb8 _
        have hbel8 : Below w3.heap.size w3 w8 := (hbel5.alloc hbel5.size _).trans hb8
        have hown9 : VOwn w8 w3.heap.size v' (i + 1) (wantV v) := hown8.congr (fun j hj => by
          by_cases hji : j = i
          · subst hji; rw [updV_at]
          · rw [updV_ne _ _ hji])
        clear hown8
        go_wp2_with fail
        go_roundw
        case rel => exact ⟨i + 1, by omega, by go_num, hown9, hbel8⟩
        case measure => simp [intOf]; omega
      · obtain rfl : i = m := by omega
        obtain ⟨wo, wc, rfl, Wn⟩ := hown.vec
        clear hown
        have M4 := M3.nextC hbel
        have hbel4 := below_chain hbel3 hbel
        rename World => X4
        have hred := red_sum Hst.out (wantV v)
        have hfs : Hid (∀ j, j < k → Fit 21 (sumK (madeF u k) (wantV v) i j)) := hid (fun j hj => (sumK_fit (n := k) (F := madeF u k) (C := wantV v) (K := 2) (K' := 2) (by decide) i (fun a _ j _ => Hfit.out a j) (fun a _ => fit_want v a) j hj).mono (by omega))
        have Hred := hid hred
        have Hfit21 : Hid (∀ a j, Fit 21 (madeF u k a j)) := hid (fun a j => (Hfit.out a j).mono (by decide))
        have hlv : lv 21 i ≤ 1000000 := Nat.le_trans (lv_le (j := 4) (by omega)) (by decide)
        have Hlv := hid hlv
        clear hred hlv
        have hsum := hid (fun (x : World) (hx : Below X4.heap.size X4 x) => sum_any i i k 2 2 (madeF u k) (wantV v) ao1 cap1 wo wc x ((M4.toV (fun a _ j _ => Hfit.out a j) (by decide)).nextV hx) ((Wn.toV (fun a _ => fit_want v a) (by decide)).nextV hx) (by omega) rfl (by omega) (by decide) (fun a _ j _ => Hfit.out a j) (fun a _ => fit_want v a) (by decide) (by decide))
        go_wp2_with fail
        refine (hsum.out X4 (Below.refl _ _)).mono ?_; rintro e w5 ⟨v5, rfl, o5, hb5⟩
        obtain ⟨so, sc, rfl, S5⟩ := o5.vec
        have M5 := M4.nextC hb5
        have hbel5 := below_chain hbel4 hb5
        clear o5
        have hco := hid (coord_old 21 ao1 i cap1 k (madeF u k) so sc _ w5 st M5 S5 (by omega) hk1 hk2 (by decide) (by decide) Hlv.out Hfit21.out hfs.out Hst.out (fun j _ => by rw [Hred.out]; rfl))
        go_wp2_with fail
        refine hco.out.mono ?_; rintro e w6 ⟨v6, rfl, o6, hb6⟩
        have o6 := o6.congr (G := wantV v) (fun j hj => by rw [Hred.out]; exact if_pos hj)
        obtain ⟨co, cc, rfl, C6⟩ := o6.vec
        have hb56 := below_chain hb5 hb6
        have hbel6 := below_chain hbel5 hb6
        clear o6 S5
        go_wp2_with fail
        refine (hsum.out w6 hb56).mono ?_; rintro e w7 ⟨v7, rfl, o7, hb7⟩
        obtain ⟨to', tc, rfl, S7⟩ := o7.vec
        have hb57 := below_chain hb56 hb7
        have M7 := M4.nextC hb57
        have C7 := C6.nextC hb7
        have W7 := Wn.nextC hb57
        have hbel7 := below_chain hbel6 hb7
        clear o7 C6
        have hins := hid (insert_oldK 21 ao1 i cap1 k (madeF u k) to' tc _ w7 st M7 S7 (by omega) hk1 hk2 (by decide) (by decide) Hlv.out Hfit21.out hfs.out Hst.out (addV_none.2 fun j _ => by rw [Hred.out]; rfl))
        go_wp2_with fail
        refine hins.out.mono ?_; rintro e w8 ⟨v8, rfl, o8, hb8⟩
        obtain ⟨ao8, cap8, rfl, M8⟩ := o8.mat
        have C8 := C7.nextC hb8
        have W8 := W7.nextC hb8
        have N8 := M7.nextC hb8
        have hbel8 := below_chain hbel7 hb8
        clear o8 M7 C7 W7
        go_wp2_with fail
        refine (awake_any _).mono ?_; rintro e w9 ⟨rfl, hb9⟩
        have C9 := C8.nextC hb9
        have W9 := W8.nextC hb9
        have N9 := N8.nextC hb9
        have M9 := M8.nextC hb9
        have hbel9 := below_chain hbel8 hb9
        go_wp2_with fail
        refine (sameV_any i (wantV v) (wantV v) (fun _ _ => rfl) _ _ _ _ _ C9 W9).mono ?_; rintro e w10 ⟨rfl, hb10⟩
        have N10 := N9.nextC hb10
        have M10 := M9.nextC hb10
        have hbel10 := below_chain hbel9 hb10
        go_wp2_with fail
        refine (sameM_any i (fun _ => k) (madeF u k) (madeF u k) (fun _ _ _ _ => rfl) _ _ _ _ _ M10 N10).mono ?_; rintro e w11 ⟨rfl, hb11⟩
        have hbel11 := below_chain hbel10 hb11
        go_wp2_with fail
        go_ret
        exact ⟨rfl, hbel11⟩

end Go.Proofs.Ytcoidofchofljaa
