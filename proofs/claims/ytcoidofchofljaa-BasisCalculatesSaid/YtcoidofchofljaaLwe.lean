/-
  The walk of BasisSelects. No condition.
-/
import Derived.Test.YtcoidofchofljaaLwd
namespace Go.Proofs.Ytcoidofchofljaa
open Go.RowKit
set_option linter.unusedSimpArgs false
set_option linter.unusedVariables false

theorem rowsK_of_good {n : Nat} {st : List Row} {l : List V} (h : Good n st l) : ∀ F' : Nat → V, (∀ i, i < l.length → F' i = l.getD i zeroV) → rowsK n F' l.length = some st := by
  induction h with
  | nil => intro F' _; rfl
  | @snoc st l v r h ha ih =>
    intro F' hF
    have h1 := ih F' (fun i hi => by rw [hF i (by simp; omega), getD_snoc_lt hi])
    have h2 : F' l.length = v := by rw [hF _ (by simp), getD_snoc_at]
    rw [List.length_append, List.length_singleton]
    exact rowsK_some h1 (by rw [h2]; exact ha)

theorem sel_get (F : Nat → V) (s : List Nat) (i : Nat) (h : i < s.length) : F (selN s i) = (s.map F).getD i zeroV := by
  unfold selN
  rw [List.getD_eq_getElem?_getD, List.getD_eq_getElem?_getD, List.getElem?_map, List.getElem?_eq_getElem h]; rfl

theorem rowsK_sel (n : Nat) (F : Nat → V) (j : Nat) : rowsK n (fun i => F (selN (selK n F j).2 i)) (selK n F j).2.length = some (selK n F j).1 := by
  have h := (selK_good n F j).1
  have := rowsK_of_good h (fun i => F (selN (selK n F j).2 i)) (fun i hi => sel_get F _ i (by simpa using hi))
  rw [List.length_map] at this
  exact this

theorem sel_list (F : Nat → V) (s : List Nat) : (List.range s.length).map (fun i => F (selN s i)) = s.map F := by
  apply List.ext_getElem?
  intro i
  rw [List.getElem?_map, List.getElem?_map]
  rcases Nat.lt_or_ge i s.length with h | h
  · rw [List.getElem?_range h, List.getElem?_eq_getElem h]
    simp only [Option.map_some, selN, List.getD_eq_getElem?_getD, List.getElem?_eq_getElem h, Option.getD_some]
  · rw [List.getElem?_eq_none (by simpa using h), List.getElem?_eq_none h]; rfl

/-- A vector that adds no row is the sum of its multiples. -/
theorem sel_sum {n : Nat} {F : Nat → V} {j : Nat} (G : V) (h : ∀ i, i < n → (red (selK n F j).1 G).1 i = 0) : ∀ i, i < n → sumK (fun i => F (selN (selK n F j).2 i)) (red (selK n F j).1 G).2 (selK n F j).2.length i = G i := by
  intro i hi
  rw [sumK_lin, sel_list]
  have hs := (selK_good n F j).1.sum G i
  rw [h i hi] at hs
  rw [hs]; grind

/-- A vector that a basis does not explain has no multipliers. -/
theorem coord_new (K : Nat) (ao : Option Addr) (m cap k : Nat) (F : Nat → V) (bo : Option Addr) (cap' : Nat) (G : V) (w : World) (st : List Row) (p : Nat) (h : Mat RatC w ao m cap (fun _ => k) F) (h' : Vec RatC w bo k cap' G) (hm : m ≤ 6) (hk1 : 1 ≤ k) (hk2 : k ≤ 4) (hK : 1 ≤ K) (hK2 : K ≤ 1000000) (hbig : lv K m ≤ 1000000)
    (hF : ∀ i j, Fit K (F i j)) (hG : ∀ j, j < k → Fit K (G j)) (hst : rowsK k F m = some st) (hp : leadOf k (red st G).1 = some p) :
    Calls Try.prog 11 #[.slice ao m cap, .slice bo k cap'] w fun e w' => e = .returned (.tuple #[.slice none 0 0, .bool false, .int .i64 0]) ∧ Below w.heap.size w w' := by
  refine (Coordinates_any K ao m cap (fun _ => k) F bo k cap' G w (h.toV (fun i _ j _ => hF i j) (by omega)) (h'.toV hG (by omega)) (by omega) (fun _ _ => by show k ≤ 100000; omega) (by show k ≤ 100000; omega) (by omega) hK (fun i _ j _ => hF i j) hG hbig).mono ?_
  rintro e w' (⟨hno, _⟩ | ⟨st', _, hno, _⟩ | ⟨st', p, _, _, _, rfl, hb⟩ | ⟨st', v, ⟨_, hst'⟩, _, hld, _⟩)
  · rw [hno (okL_const hk1 (by omega) m)] at hst; cases hst
  · rw [fits_const hk1 (by omega) m] at hno; cases hno
  · exact ⟨rfl, hb⟩
  · rw [hst] at hst'
    injection hst' with hst'
    subst hst'
    rw [hp] at hld; cases hld

theorem natI_take (s : List Nat) (k : Nat) : (natI s).take k = natI (s.take k) := by unfold natI; rw [List.map_take]

set_option maxHeartbeats 4000000 in
set_option maxRecDepth 100000 in
theorem walkSelects (w : World) (a : Int) (ha : 0 ≤ a ∧ a ≤ 255) (b : Int) (hb : 0 ≤ b ∧ b ≤ 255) (u : List Int) (ao : Option Addr) (r cap : Nat) (hU : Sl w ao r cap (u.map (.int .i64))) (hu : (ao = none → cap = 0) ∧ ∀ z ∈ u, -9223372036854775808 ≤ z ∧ z ≤ 9223372036854775807) :
    Calls Try.prog 3 #[.int .u8 a, .int .u8 b, .slice ao r cap] w fun e w' => e = .returned (.bool true) ∧ Below w.heap.size w w' := by
  have hr := hU.bound
  have Hu := hid hu.2
  clear hu
  obtain ⟨A, rfl⟩ := Int.eq_ofNat_of_zero_le ha.1
  obtain ⟨B, rfl⟩ := Int.eq_ofNat_of_zero_le hb.1
  obtain ⟨m, hm⟩ : ∃ m, A % 7 = m := ⟨_, rfl⟩
  obtain ⟨k0, hk0⟩ : ∃ k, B % 4 = k := ⟨_, rfl⟩
  have hm5 : m ≤ 6 := by omega
  have hk4 : k0 ≤ 3 := by omega
  have e1 : Int.tmod (A : Int) 7 = (m : Int) := by rw [← hm]; simp [Int.tmod]
  have e2 : Int.tmod (B : Int) 4 = (k0 : Int) := by rw [← hk0]; simp [Int.tmod]
  have e3 : (A : Int) % 7 = (m : Int) := by omega
  have e4 : (B : Int) % 4 = (k0 : Int) := by omega
  clear hm hk0
  obtain ⟨k, hk⟩ : ∃ k, k0 + 1 = k := ⟨_, rfl⟩
  have e5 : (1 : Int) + (k0 : Int) = (k : Int) := by omega
  have hk2 : k ≤ 4 := by omega
  have hk1 : 1 ≤ k := by omega
  clear hk
  go_enter Try.func3, Try.ntmps3
  go_wp2_with fail
  refine (vectors_any m k (by omega) (by omega) u Hu.out _ _ _ _ hU).mono ?_; rintro e w1 ⟨v1, rfl, o1, hb1⟩
  obtain ⟨ao1, cap1, rfl, M1⟩ := o1.mat
  clear o1
  have hfit : ∀ i j, Fit 2 (madeF u k i j) := fun i j => fit_made u k i j
  obtain ⟨F, hF⟩ : ∃ F, madeF u k = F := ⟨_, rfl⟩
  rw [hF] at M1
  simp only [hF] at hfit
  clear hF
  have Hfit := hid hfit
  have hsel := hid (Select_any 2 ao1 m cap1 (fun _ => k) F w1 (M1.toV (fun i _ j _ => hfit i j) (by decide)) (by omega) (fun _ _ => by show k ≤ 100000; omega) (by decide) (fun i _ j _ => hfit i j) (lv_small2 (by omega)))
  clear hfit
  go_wp2_with fail
  refine hsel.out.mono ?_; rintro e w2 (⟨hno, _⟩ | ⟨vs, _, rfl, hs2, hb2⟩)
  case inl => exact absurd (okL_const hk1 (by omega) m) hno
  have hs2 : Own IsI64 w2 w1.heap.size 3 1 vs (selK k F m).2.length (natI (selK k F m).2) := hs2
  obtain ⟨so, sc, rfl, S2⟩ := ownsSl hs2.1
  have M2 := M1.nextC hb2
  have hbel2 := below_chain hb1 hb2
  have hsm := hid (selK_good k F m).2
  obtain ⟨_, hslen⟩ := selK_len k F m
  obtain ⟨N, hN⟩ : ∃ N, (selK k F m).2.length = N := ⟨_, rfl⟩
  have HN := hid hN
  rw [hN] at S2 hslen
  simp only [hN]
  have hpick := hid (pick_any ao1 m cap1 (fun _ => k) F (selK k F m).2 hsm.out (by omega) so N sc w2 M2 S2 (by omega))
  have hrsel := rowsK_sel k F m
  rw [hN] at hrsel
  have Hrsel := hid hrsel
  clear hs2 hsel M1 hN hrsel
  go_wp2_with fail
  refine hpick.out.mono ?_; rintro e w3 ⟨v3, rfl, o3, hb3⟩
  obtain ⟨ao3, cap3, rfl, P3⟩ := o3.mat
  have M3 := M2.nextC hb3
  have S3 := S2.next hb3
  have hbel3 := below_chain hbel2 hb3
  have hval := hid (Valid_basis 2 ao3 N cap3 (fun _ => k) (fun i => F (selN (selK k F m).2 i)) w3 (P3.toV (fun i _ j _ => Hfit.out _ j) (by decide)) (by omega) (fun _ _ => by show k ≤ 100000; omega) (by decide) (fun i _ j _ => Hfit.out _ j) (lv_small2 (by omega)))
  rw [basisB_of (okL_const hk1 (by omega) _) Hrsel.out] at hval
  clear o3 P3 hpick M2 S2
  go_wp2_with fail
  refine hval.out.mono ?_; rintro e w4 ⟨rfl, hb4⟩
  have M4 := M3.nextC hb4
  have S4 := S3.next hb4
  have hbel4 := below_chain hbel3 hb4
  have hcap : N ≤ sc := S4.le
  have hcapm : sc ≤ 9223372036854775807 := by have := S4.most; simp only [maxLen] at this; omega
  clear M3 S3 hval
  go_wp2_with fail
  go_loopw [13, 12] (fun iv av wr => ∃ i : Nat, i ≤ m ∧ iv = .int .i64 i ∧ av = .int .i64 (selK k F i).2.length ∧ Below w4.heap.size w4 wr) (fun i _ _ => m - (intOf i).toNat)
  case atStart => exact ⟨0, by omega, rfl, rfl, Below.refl _ _⟩
  case round =>
    obtain ⟨i, hi, rfl, rfl, hbel⟩ := hrel
    by_cases hlt : i < m
    · obtain ⟨_, hl2⟩ := selK_len k F i
      obtain ⟨n, hn⟩ : ∃ n, (selK k F i).2.length = n := ⟨_, rfl⟩
      have Hn := hid hn
      have htake := selK_take k F (k := i) (m := m) (by omega)
      rw [hn] at htake
      have hnN : n ≤ N := by
        have := congrArg List.length htake
        rw [List.length_take, HN.out, hn] at this
        omega
      have hat := selK_at k F (k := i) (m := m) hlt
      rw [hn] at hat hl2
      have Hat := hid hat
      have Htake := hid htake
      simp only [hn]
      clear hn htake hat
      have M5 := M4.nextC hbel
      have S5 := S4.next hbel
      obtain ⟨bl, ol, rfl, ro, rc, hcell, hv⟩ := M5.get hlt
      have ST : Sl wr so n sc (natI (selK k F i).2) := by
        have := S5.take hnN
        rw [natI_take, Htake.out] at this
        exact this
      have n0 : (0 : Int) ≤ (n : Int) := by omega
      have n1 : (n : Int) ≤ (sc : Int) := by omega
      have hpick := hid (pick_any _ m cap1 (fun _ => k) F (selK k F i).2 (fun y hy => Nat.lt_trans ((selK_good k F i).2 y hy) hlt) (by omega) so n sc _ M5 ST (by omega))
      have hrs := rowsK_sel k F i
      rw [Hn.out] at hrs
      have Hrs := hid hrs
      have hsum := hid (fun (G : V) (h : ∀ q, q < k → (red (selK k F i).1 G).1 q = 0) => sel_sum (n := k) (F := F) (j := i) G h)
      have hfitr : RFit 2 k (selK k F i).1 := selK_fit (by decide) i (fun a _ j _ => Hfit.out a j)
      have hf2 := (hfitr.red (by decide) (fun j _ => Hfit.out i j)).2
      have hl1 := (selK_len k F i).1
      rw [Hn.out] at hl1
      rw [hl1] at hf2
      have Hf2 := hid hf2
      have hlv : lv 2 n ≤ 100000 := Nat.le_trans (lv_le (j := 6) (by omega)) (by decide)
      have Hlv := hid hlv
      clear hrs hfitr hf2 hl1 hlv
      cases hadd : addV k (selK k F i).1 (F i) with
      | none =>
        have hz := addV_none.1 hadd
        have Hz := hid hz
        have hse := hid (selK_none hadd)
        have hno : Hid ((selK k F m).2[n]? ≠ some i) := hid (fun e => by have := Hat.out.1 e; rw [hadd] at this; cases this)
        clear hz hadd
        by_cases hnlt : n < N
        · have c1 : decide (n < N) = true := decide_eq_true hnlt
          have c2 : decide ((n : Int) < (N : Int)) = true := decide_eq_true (by omega)
          obtain ⟨x, hx, bs, os, rfl, hcs⟩ := S5.get (f := fun (i : Nat) => Value.int .i64 (i : Int)) hnlt
          have hxi : x ≠ i := fun e => hno.out (by rw [hx, e])
          have c3 : ((x : Int) == (i : Int)) = false := by rw [beq_eq_false_iff_ne]; omega
          clear hx
          go_wp2_with fail
          refine hpick.out.mono ?_; rintro e w5 ⟨v5, rfl, o5, hb5⟩
          obtain ⟨ao5, cap5, rfl, B5⟩ := o5.mat
          have hcell5 : w5.cell? ⟨bl, ol + i, none⟩ = some (.slice ro k rc) := ((bcell hb5).1 _ _ (World.block_lt_of_cell? _ _ hcell)).trans hcell
          have hv5 := hv.nextC hb5
          have hbel5 := below_chain hbel hb5
          have hco := hid (coord_old 2 ao5 n cap5 k (fun q => F (selN (selK k F i).2 q)) ro rc (F i) w5 (selK k F i).1 B5 hv5 (by omega) hk1 hk2 (by decide) (by decide) (lv_small2 (by omega)) (fun q j => Hfit.out _ j) (fun j _ => Hfit.out i j) Hrs.out Hz.out)
          clear o5 hcell hv
          go_wp2_with fail
          refine hco.out.mono ?_; rintro e w6 ⟨v6, rfl, o6, hb6⟩
          obtain ⟨co, cc, rfl, C6⟩ := o6.vec
          have B6 := B5.nextC hb6
          have hv6 := hv5.nextC hb6
          have hbel6 := below_chain hbel5 hb6
          have hcell6 : w6.cell? ⟨bl, ol + i, none⟩ = some (.slice ro k rc) := ((bcell hb6).1 _ _ (World.block_lt_of_cell? _ _ hcell5)).trans hcell5
          have hnext : Hid (.int .i64 (n : Int) = Value.int .i64 ((selK k F (i + 1)).2.length : Nat)) := hid (by rw [hse.out, Hn.out])
          have hdd : Below w6.heap.size w6 w6.drew := (Below.refl _ _).drew
          have hS0 : E1 bl (ol + i) (.slice ro k rc) w6.drew := E1.next hcell6 hdd
          have hSW : E1 bl (ol + i) (.slice ro k rc) w6 := hcell6
          have hK : ∀ w' w'', E1 bl (ol + i) (.slice ro k rc) w' → Below w'.heap.size w' w'' → E1 bl (ol + i) (.slice ro k rc) w'' := fun w' w'' h hb => h.next hb
          have i0 : (0 : Int) ≤ (i : Int) := by omega
          have i1 : (i : Int) < (m : Int) := by omega
          have hnn : ((n : Int) != (n : Int)) = false := by simp
          clear o6 hcell5 hcell6 hv5 B5
          go_wp2_with fail
          go_region_held3 (fun w' => E1 bl (ol + i) (.slice ro k rc) w')
            (repeat (first | with_reducible assumption | with_reducible refine hK _ _ ?_ hb7 | with_reducible refine hK _ _ ?_ hb8))
            (first
              | (go_at_call 13; refine (sum_any n n k 2 (lv 2 n) (fun q => F (selN (selK k F i).2 q)) (red (selK k F i).1 (F i)).2 ao5 cap5 co cc _ ((B6.toV (fun q _ j _ => Hfit.out _ j) (by decide)).nextV hdd) ((C6.toV (fun q _ => Hf2.out q) (Nat.le_trans Hlv.out (by decide))).nextV hdd) (by omega) rfl (by omega) (by decide) (fun q _ j _ => Hfit.out _ j) (fun q _ => Hf2.out q) (by decide) Hlv.out).mono ?_; rintro e w7 ⟨v7, rfl, o7, hb7⟩; obtain ⟨so7, sc7, rfl, S7⟩ := o7.vec)
              | (go_at_call 12; refine (sameV_any k _ (F i) (fun q hq => by have := hsum.out (F i) Hz.out q hq; rw [Hn.out] at this; exact this) _ _ _ _ _ S7 ((hv6.nextC hdd).nextC hb7)).mono ?_; rintro e w8 ⟨rfl, hb8⟩))
          have hbel8 := below_chain (below_chain (below_chain hbel6 hdd) hb7) hb8
          clear o7 S7
          go_wp2_with fail
          go_roundw
          case rel => exact ⟨i + 1, by omega, by go_num, hnext.out, hbel8⟩
          case measure => simp [intOf]; omega
        · have c1 : decide (n < N) = false := decide_eq_false hnlt
          have c2 : decide ((n : Int) < (N : Int)) = false := decide_eq_false (by omega)
          go_wp2_with fail
          refine hpick.out.mono ?_; rintro e w5 ⟨v5, rfl, o5, hb5⟩
          obtain ⟨ao5, cap5, rfl, B5⟩ := o5.mat
          have hcell5 : w5.cell? ⟨bl, ol + i, none⟩ = some (.slice ro k rc) := ((bcell hb5).1 _ _ (World.block_lt_of_cell? _ _ hcell)).trans hcell
          have hv5 := hv.nextC hb5
          have hbel5 := below_chain hbel hb5
          have hco := hid (coord_old 2 ao5 n cap5 k (fun q => F (selN (selK k F i).2 q)) ro rc (F i) w5 (selK k F i).1 B5 hv5 (by omega) hk1 hk2 (by decide) (by decide) (lv_small2 (by omega)) (fun q j => Hfit.out _ j) (fun j _ => Hfit.out i j) Hrs.out Hz.out)
          clear o5 hcell hv
          go_wp2_with fail
          refine hco.out.mono ?_; rintro e w6 ⟨v6, rfl, o6, hb6⟩
          obtain ⟨co, cc, rfl, C6⟩ := o6.vec
          have B6 := B5.nextC hb6
          have hv6 := hv5.nextC hb6
          have hbel6 := below_chain hbel5 hb6
          have hcell6 : w6.cell? ⟨bl, ol + i, none⟩ = some (.slice ro k rc) := ((bcell hb6).1 _ _ (World.block_lt_of_cell? _ _ hcell5)).trans hcell5
          have hnext : Hid (.int .i64 (n : Int) = Value.int .i64 ((selK k F (i + 1)).2.length : Nat)) := hid (by rw [hse.out, Hn.out])
          have hdd : Below w6.heap.size w6 w6.drew := (Below.refl _ _).drew
          have hS0 : E1 bl (ol + i) (.slice ro k rc) w6.drew := E1.next hcell6 hdd
          have hSW : E1 bl (ol + i) (.slice ro k rc) w6 := hcell6
          have hK : ∀ w' w'', E1 bl (ol + i) (.slice ro k rc) w' → Below w'.heap.size w' w'' → E1 bl (ol + i) (.slice ro k rc) w'' := fun w' w'' h hb => h.next hb
          have i0 : (0 : Int) ≤ (i : Int) := by omega
          have i1 : (i : Int) < (m : Int) := by omega
          have hnn : ((n : Int) != (n : Int)) = false := by simp
          clear o6 hcell5 hcell6 hv5 B5
          go_wp2_with fail
          go_region_held3 (fun w' => E1 bl (ol + i) (.slice ro k rc) w')
            (repeat (first | with_reducible assumption | with_reducible refine hK _ _ ?_ hb7 | with_reducible refine hK _ _ ?_ hb8))
            (first
              | (go_at_call 13; refine (sum_any n n k 2 (lv 2 n) (fun q => F (selN (selK k F i).2 q)) (red (selK k F i).1 (F i)).2 ao5 cap5 co cc _ ((B6.toV (fun q _ j _ => Hfit.out _ j) (by decide)).nextV hdd) ((C6.toV (fun q _ => Hf2.out q) (Nat.le_trans Hlv.out (by decide))).nextV hdd) (by omega) rfl (by omega) (by decide) (fun q _ j _ => Hfit.out _ j) (fun q _ => Hf2.out q) (by decide) Hlv.out).mono ?_; rintro e w7 ⟨v7, rfl, o7, hb7⟩; obtain ⟨so7, sc7, rfl, S7⟩ := o7.vec)
              | (go_at_call 12; refine (sameV_any k _ (F i) (fun q hq => by have := hsum.out (F i) Hz.out q hq; rw [Hn.out] at this; exact this) _ _ _ _ _ S7 ((hv6.nextC hdd).nextC hb7)).mono ?_; rintro e w8 ⟨rfl, hb8⟩))
          have hbel8 := below_chain (below_chain (below_chain hbel6 hdd) hb7) hb8
          clear o7 S7
          go_wp2_with fail
          go_roundw
          case rel => exact ⟨i + 1, by omega, by go_num, hnext.out, hbel8⟩
          case measure => simp [intOf]; omega
      | some rr =>
        have hyes : Hid ((selK k F m).2[n]? = some i) := hid (Hat.out.2 (by rw [hadd]; rfl))
        have hse := hid (selK_some hadd)
        obtain ⟨p, hp, _⟩ := addV_some hadd
        have Hp := hid hp
        clear hadd hp
        have hnlt : n < N := by
          have := (List.getElem?_eq_some_iff.1 hyes.out).1
          rw [HN.out] at this; exact this
        have c1 : decide (n < N) = true := decide_eq_true hnlt
        have c2 : decide ((n : Int) < (N : Int)) = true := decide_eq_true (by omega)
        obtain ⟨x, hx, bs, os, rfl, hcs⟩ := S5.get (f := fun (i : Nat) => Value.int .i64 (i : Int)) hnlt
        rw [hyes.out] at hx
        injection hx with hx
        subst hx
        have c3 : ((i : Int) == (i : Int)) = true := by simp
        go_wp2_with fail
        refine hpick.out.mono ?_; rintro e w5 ⟨v5, rfl, o5, hb5⟩
        obtain ⟨ao5, cap5, rfl, B5⟩ := o5.mat
        have hcell5 : w5.cell? ⟨bl, ol + i, none⟩ = some (.slice ro k rc) := ((bcell hb5).1 _ _ (World.block_lt_of_cell? _ _ hcell)).trans hcell
        have hv5 := hv.nextC hb5
        have hbel5 := below_chain hbel hb5
        have hco := hid (coord_new 2 ao5 n cap5 k (fun q => F (selN (selK k F i).2 q)) ro rc (F i) w5 (selK k F i).1 p B5 hv5 (by omega) hk1 hk2 (by decide) (by decide) (lv_small2 (by omega)) (fun q j => Hfit.out _ j) (fun j _ => Hfit.out i j) Hrs.out Hp.out)
        clear o5 hcell hv B5
        go_wp2_with fail
        refine hco.out.mono ?_; rintro e w6 ⟨rfl, hb6⟩
        have hbel6 := below_chain hbel5 hb6
        have hnext : Hid (.int .i64 ((n : Int) + 1) = Value.int .i64 ((selK k F (i + 1)).2.length : Nat)) := hid (by rw [hse.out, List.length_append, Hn.out]; rfl)
        go_wp2_with fail
        go_quiet (fail)
        go_wp2_with fail
        go_roundw
        case rel => exact ⟨i + 1, by omega, by go_num, hnext.out, hbel6.trans (below_drewNs _)⟩
        case measure => simp [intOf]; omega
    · obtain rfl : i = m := by omega
      have hbel5 := below_chain hbel4 hbel
      have hNN := HN.out
      rw [hNN]
      have c9 : ((N : Int) == (N : Int)) = true := by simp
      clear hNN
      go_wp2_with fail
      refine (awake_any _).mono ?_; rintro e w9 ⟨rfl, hb9⟩
      have hbel9 := below_chain hbel5 hb9
      go_wp2_with fail
      go_ret
      exact ⟨rfl, hbel9⟩

end Go.Proofs.Ytcoidofchofljaa
