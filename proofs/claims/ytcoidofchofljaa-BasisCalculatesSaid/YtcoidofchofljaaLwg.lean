/-
  The walk of BasisCalculates. No condition.
-/
import Derived.Test.YtcoidofchofljaaLwf
namespace Go.Proofs.Ytcoidofchofljaa
open Go.RowKit
set_option linter.unusedSimpArgs false
set_option linter.unusedVariables false

theorem rows_fits_none {m n : Nat} {L : Nat → Nat} {F : Nat → V} (hr : rowsK (L 0) F m = none) (hf : fitsB m L n = true) : rowsK n F m = none := by
  rcases (fitsB_spec hf).2 with rfl | rfl
  · simp [rowsK] at hr
  · exact hr

theorem co_det (m : Nat) (L : Nat → Nat) (F : Nat → V) (n : Nat) (G : V) : ∃ (ok : Bool) (er : Int) (len : Nat) (C : V), ∀ w e w', CoOut w m L F n G e w' →
    ∃ ao cap, e = .returned (.tuple #[.slice ao len cap, .bool ok, .int .i64 er]) ∧ Vec RatC w' ao len cap C ∧ Below w.heap.size w w' := by
  by_cases h1 : OkL m L → rowsK (L 0) F m = none
  · refine ⟨false, 4, 0, zeroV, fun w e w' h => ?_⟩
    rcases h with ⟨_, rfl, hb⟩ | ⟨st, ⟨hok, hst⟩, _, _, _⟩ | ⟨st, p, ⟨hok, hst⟩, hf, _, _, _⟩ | ⟨st, v, ⟨hok, hst⟩, hf, _, _, _, _⟩
    · exact ⟨none, 0, rfl, Vec.nil _ _ _, hb⟩
    · rw [h1 hok] at hst; cases hst
    · rw [rows_fits_none (h1 hok) hf] at hst; cases hst
    · rw [rows_fits_none (h1 hok) hf] at hst; cases hst
  · cases hf : fitsB m L n with
    | false =>
      refine ⟨false, 1, 0, zeroV, fun w e w' h => ?_⟩
      rcases h with ⟨hno, _, _⟩ | ⟨st, _, _, rfl, hb⟩ | ⟨st, p, _, hf', _, _, _⟩ | ⟨st, v, _, hf', _, _, _, _⟩
      · exact absurd hno h1
      · exact ⟨none, 0, rfl, Vec.nil _ _ _, hb⟩
      · rw [hf] at hf'; cases hf'
      · rw [hf] at hf'; cases hf'
    | true =>
      cases hr : rowsK n F m with
      | none =>
        refine ⟨false, 4, 0, zeroV, fun w e w' h => ?_⟩
        rcases h with ⟨hno, _, _⟩ | ⟨st, _, hf', _, _⟩ | ⟨st, p, ⟨_, hst⟩, _, _, _, _⟩ | ⟨st, v, ⟨_, hst⟩, _, _, _, _, _⟩
        · exact absurd hno h1
        · rw [hf] at hf'; cases hf'
        · rw [hr] at hst; cases hst
        · rw [hr] at hst; cases hst
      | some st0 =>
        cases hl : leadOf n (red st0 G).1 with
        | some p0 =>
          refine ⟨false, 0, 0, zeroV, fun w e w' h => ?_⟩
          rcases h with ⟨hno, _, _⟩ | ⟨st, _, hf', _, _⟩ | ⟨st, p, _, _, _, rfl, hb⟩ | ⟨st, v, ⟨_, hst⟩, _, hl', _, _, _⟩
          · exact absurd hno h1
          · rw [hf] at hf'; cases hf'
          · exact ⟨none, 0, rfl, Vec.nil _ _ _, hb⟩
          · rw [hr] at hst; injection hst with hst; subst hst
            rw [hl] at hl'; cases hl'
        | none =>
          refine ⟨true, 0, m, (red st0 G).2, fun w e w' h => ?_⟩
          rcases h with ⟨hno, _, _⟩ | ⟨st, _, hf', _, _⟩ | ⟨st, p, ⟨_, hst⟩, _, hl', _, _⟩ | ⟨st, v, ⟨_, hst⟩, _, _, rfl, hv, hb⟩
          · exact absurd hno h1
          · rw [hf] at hf'; cases hf'
          · rw [hr] at hst; injection hst with hst; subst hst
            rw [hl] at hl'; cases hl'
          · rw [hr] at hst; injection hst with hst; subst hst
            obtain ⟨ao, cap, rfl, hvec⟩ := hv.vec
            exact ⟨ao, cap, rfl, hvec, hb⟩

theorem in_det (m : Nat) (L : Nat → Nat) (F : Nat → V) (n : Nat) (G : V) : ∃ (ok : Bool) (er : Int) (M : Nat) (L' : Nat → Nat) (F' : Nat → V), ∀ w e w', InOut w m L F n G e w' →
    ∃ ao cap, e = .returned (.tuple #[.slice ao M cap, .bool ok, .int .i64 er]) ∧ Mat RatC w' ao M cap L' F' ∧ Below w.heap.size w w' := by
  by_cases h1 : OkL m L → rowsK (L 0) F m = none
  · refine ⟨false, 4, 0, L, F, fun w e w' h => ?_⟩
    rcases h with ⟨_, rfl, hb⟩ | ⟨st, ⟨hok, hst⟩, _, _, _⟩ | ⟨st, v, ⟨hok, hst⟩, hf, _, _, _, _⟩ | ⟨st, r, v, ⟨hok, hst⟩, hf, _, _, _, _⟩
    · exact ⟨none, 0, rfl, Mat.nil _ _ _ _, hb⟩
    · rw [h1 hok] at hst; cases hst
    · rw [rows_fits_none (h1 hok) hf] at hst; cases hst
    · rw [rows_fits_none (h1 hok) hf] at hst; cases hst
  · cases hf : fitsB m L n with
    | false =>
      refine ⟨false, 1, 0, L, F, fun w e w' h => ?_⟩
      rcases h with ⟨hno, _, _⟩ | ⟨st, _, _, rfl, hb⟩ | ⟨st, v, _, hf', _, _, _, _⟩ | ⟨st, r, v, _, hf', _, _, _, _⟩
      · exact absurd hno h1
      · exact ⟨none, 0, rfl, Mat.nil _ _ _ _, hb⟩
      · rw [hf] at hf'; cases hf'
      · rw [hf] at hf'; cases hf'
    | true =>
      cases hr : rowsK n F m with
      | none =>
        refine ⟨false, 4, 0, L, F, fun w e w' h => ?_⟩
        rcases h with ⟨hno, _, _⟩ | ⟨st, _, hf', _, _⟩ | ⟨st, v, ⟨_, hst⟩, _, _, _, _, _⟩ | ⟨st, r, v, ⟨_, hst⟩, _, _, _, _, _⟩
        · exact absurd hno h1
        · rw [hf] at hf'; cases hf'
        · rw [hr] at hst; cases hst
        · rw [hr] at hst; cases hst
      | some st0 =>
        cases hl : addV n st0 G with
        | none =>
          refine ⟨false, 0, m, L, F, fun w e w' h => ?_⟩
          rcases h with ⟨hno, _, _⟩ | ⟨st, _, hf', _, _⟩ | ⟨st, v, _, _, _, rfl, hv, hb⟩ | ⟨st, r, v, ⟨_, hst⟩, _, hl', _, _, _⟩
          · exact absurd hno h1
          · rw [hf] at hf'; cases hf'
          · obtain ⟨ao, cap, rfl, hvec⟩ := hv.mat
            exact ⟨ao, cap, rfl, hvec, hb⟩
          · rw [hr] at hst; injection hst with hst; subst hst
            rw [hl] at hl'; cases hl'
        | some r0 =>
          refine ⟨true, 0, m + 1, updN L m n, updF F m G, fun w e w' h => ?_⟩
          rcases h with ⟨hno, _, _⟩ | ⟨st, _, hf', _, _⟩ | ⟨st, v, ⟨_, hst⟩, _, hl', _, _, _⟩ | ⟨st, r, v, _, _, _, rfl, hv, hb⟩
          · exact absurd hno h1
          · rw [hf] at hf'; cases hf'
          · rw [hr] at hst; injection hst with hst; subst hst
            rw [hl] at hl'; cases hl'
          · obtain ⟨ao, cap, rfl, hvec⟩ := hv.mat
            exact ⟨ao, cap, rfl, hvec, hb⟩

theorem se_det (m : Nat) (L : Nat → Nat) (F : Nat → V) : ∃ (er : Int) (s : List Int), ∀ w e w', SeOut w m L F e w' →
    ∃ ao cap, e = .returned (.tuple #[.slice ao s.length cap, .int .i64 er]) ∧ Sl w' ao s.length cap (i64s s) ∧ Below w.heap.size w w' := by
  by_cases h1 : OkL m L
  · refine ⟨0, (selK (L 0) F m).2.map fun (i : Nat) => (i : Int), fun w e w' h => ?_⟩
    rcases h with ⟨hno, _, _⟩ | ⟨v, _, rfl, ho, hb⟩
    · exact absurd h1 hno
    · obtain ⟨ao, cap, rfl, hs⟩ := ownsSl ho.1
      refine ⟨ao, cap, by rw [List.length_map], ?_, hb⟩
      rw [List.length_map]
      have : i64s ((selK (L 0) F m).2.map fun (i : Nat) => (i : Int)) = natI (selK (L 0) F m).2 := by unfold i64s natI; rw [List.map_map]; rfl
      rw [this]; exact hs
  · refine ⟨4, [], fun w e w' h => ?_⟩
    rcases h with ⟨_, rfl, hb⟩ | ⟨v, hok, _⟩
    · exact ⟨none, 0, rfl, Sl.nil _, hb⟩
    · exact absurd hok h1

set_option maxHeartbeats 4000000 in
set_option maxRecDepth 100000 in
theorem walkCalc (w : World) (ao : Option Addr) (m cap : Nat) (L : Nat → Nat) (F : Nat → V) (h : Mat RatW w ao m cap L F) (bo : Option Addr) (n cap' : Nat) (G : V) (h' : Vec RatW w bo n cap' G) :
    Calls Try.prog 5 #[.slice ao m cap, .slice bo n cap'] w fun e w' => e = .returned (.bool true) ∧ Below w.heap.size w w' := by
  have hmb := h.bound
  have hnb := h'.bound
  go_enter Try.func5, Try.ntmps5
  go_wp2_with fail
  refine (light_any ao m cap L F w h).mono ?_; rintro e w1 ⟨c1, rfl, hc1, hb1⟩
  have Hc1 := hid hc1
  clear hc1
  cases c1 with
  | false =>
    go_wp2_with fail
    refine (awake_any _).mono ?_; rintro e w2 ⟨rfl, hb2⟩
    have hbel2 := below_chain hb1 hb2
    go_wp2_with fail
    go_ret
    exact ⟨rfl, hbel2⟩
  | true =>
    have h1 := h'.nextW hb1
    go_wp2_with fail
    refine (short_any bo n cap' G w1 h1).mono ?_; rintro e w2 ⟨c2, rfl, hc2, hb2⟩
    have Hc2 := hid hc2
    have hbel2 := below_chain hb1 hb2
    clear hc2
    cases c2 with
    | false =>
      go_wp2_with fail
      refine (awake_any _).mono ?_; rintro e w3 ⟨rfl, hb3⟩
      have hbel3 := below_chain hbel2 hb3
      go_wp2_with fail
      go_ret
      exact ⟨rfl, hbel3⟩
    | true =>
      obtain ⟨hm6, M1, hL6, hF⟩ := Hc1.out (by trivial)
      obtain ⟨hn6, V1, hG⟩ := Hc2.out (by trivial)
      obtain ⟨L2, hL2⟩ : ∃ L2 : Nat → Nat, L2 = fun i => if i < m then L i else 0 := ⟨_, rfl⟩
      have hLe : ∀ i, i < m → L i = L2 i := fun i hi => by rw [hL2]; simp [hi]
      have M2 := (M1.lens hLe).nextV hb2
      have V2 := V1.nextV hb2
      have hLs : ∀ i, L2 i ≤ 100000 := fun i => by
        rw [hL2]; simp only
        split
        · have := hL6 i ‹_›; omega
        · omega
      have hF2 : ∀ i, i < m → ∀ j, j < L2 i → Fit 2 (F i j) := fun i hi j hj => hF i hi j (by rw [hLe i hi]; exact hj)
      have HF := hid hF2
      have HG := hid hG
      have HL := hid hLs
      obtain ⟨ok, er, len, C, hco⟩ := co_det m L2 F n G
      obtain ⟨ad, eg, Mi, Li, Fi, hin⟩ := in_det m L2 F n G
      obtain ⟨es, s, hse⟩ := se_det m L2 F
      have Hco := hid hco
      have Hin := hid hin
      have Hse := hid hse
      have k1 : ((ok : Bool) == ok) = true := by simp
      have k2 : ((er : Int) == er) = true := by simp
      have k3 : ((ad : Bool) == ad) = true := by simp
      have k4 : ((eg : Int) == eg) = true := by simp
      have k5 : ((es : Int) == es) = true := by simp
      obtain ⟨bs, hbs⟩ : ∃ bs, basisB m L2 F = bs := ⟨_, rfl⟩
      have Hbs := hid hbs
      have k6 : ((bs : Bool) == bs) = true := by simp
      clear hL2 hLe M1 V1 hLs hF2 hF hG hco hin hse hL6 hbs h h1 h'
      go_wp2_with fail
      refine (Coordinates_any 2 ao m cap L2 F bo n cap' G w2 M2 V2 (by omega) (fun i _ => HL.out i) (HL.out 0) (by omega) (by decide) HF.out HG.out (lv_small2 hm6)).mono ?_; intro e w3 h3
      obtain ⟨ao3, cap3, rfl, C3', hb3⟩ := Hco.out _ _ _ h3
      have M3 := M2.nextV hb3
      have V3 := V2.nextV hb3
      have hbel3 := below_chain hbel2 hb3
      clear h3 M2 V2
      go_wp2_with fail
      refine (rCoordinates_any 2 ao m cap L2 F bo n cap' G w3 M3 V3 (by omega) (fun i _ => HL.out i) (by omega) (by decide) HF.out HG.out (lv_small hm6)).mono ?_; intro e w4 h4
      obtain ⟨ao4, cap4, rfl, C4', hb4⟩ := Hco.out _ _ _ h4
      have M4 := M3.nextV hb4
      have V4 := V3.nextV hb4
      have C3' := C3'.nextC hb4
      have hbel4 := below_chain hbel3 hb4
      clear h4 M3 V3
      go_wp2_with fail
      refine (Insert_any 2 ao m cap L2 F bo n cap' G w4 M4 V4 (by omega) (fun i _ => HL.out i) (HL.out 0) (by omega) (by decide) HF.out HG.out (lv_small2 hm6) (by decide)).mono ?_; intro e w5 h5
      obtain ⟨ao5, cap5, rfl, I5, hb5⟩ := Hin.out _ _ _ h5
      have M5 := M4.nextV hb5
      have V5 := V4.nextV hb5
      have C3' := C3'.nextC hb5
      have C4' := C4'.nextC hb5
      have hbel5 := below_chain hbel4 hb5
      clear h5 M4 V4
      go_wp2_with fail
      refine (rInsert_any 2 ao m cap L2 F bo n cap' G w5 M5 V5 (by omega) (fun i _ => HL.out i) (by omega) (by decide) HF.out HG.out (lv_small hm6)).mono ?_; intro e w6 h6
      obtain ⟨ao6, cap6, rfl, I6, hb6⟩ := Hin.out _ _ _ h6
      have M6 := M5.nextV hb6
      have C3' := C3'.nextC hb6
      have C4' := C4'.nextC hb6
      have I5 := I5.nextC hb6
      have hbel6 := below_chain hbel5 hb6
      clear h6 M5 V5
      go_wp2_with fail
      refine (Select_any 2 ao m cap L2 F w6 M6 (by omega) (fun i _ => HL.out i) (by decide) HF.out (lv_small2 hm6)).mono ?_; intro e w7 h7
      obtain ⟨ao7, cap7, rfl, S7, hb7⟩ := Hse.out _ _ _ h7
      have M7 := M6.nextV hb7
      have C3' := C3'.nextC hb7
      have C4' := C4'.nextC hb7
      have I5 := I5.nextC hb7
      have I6 := I6.nextC hb7
      have hbel7 := below_chain hbel6 hb7
      clear h7 M6
      go_wp2_with fail
      refine (rSelect_any 2 ao m cap L2 F w7 M7 (by omega) (fun i _ => HL.out i) (by decide) HF.out (lv_small hm6)).mono ?_; intro e w8 h8
      obtain ⟨ao8, cap8, rfl, S8, hb8⟩ := Hse.out _ _ _ h8
      have M8 := M7.nextV hb8
      have C3' := C3'.nextC hb8
      have C4' := C4'.nextC hb8
      have I5 := I5.nextC hb8
      have I6 := I6.nextC hb8
      have S7 := S7.next hb8
      have hbel8 := below_chain hbel7 hb8
      clear h8 M7
      go_wp2_with fail
      refine (awake_any _).mono ?_; rintro e w9 ⟨rfl, hb9⟩
      have M9 := M8.nextV hb9
      have C3' := C3'.nextC hb9
      have C4' := C4'.nextC hb9
      have I5 := I5.nextC hb9
      have I6 := I6.nextC hb9
      have S7 := S7.next hb9
      have S8 := S8.next hb9
      have hbel9 := below_chain hbel8 hb9
      clear M8
      go_wp2_with fail
      refine (Valid_basis 2 ao m cap L2 F w9 M9 (by omega) (fun i _ => HL.out i) (by decide) HF.out (lv_small2 hm6)).mono ?_; rw [Hbs.out]; rintro e w10 ⟨rfl, hb10⟩
      have M10 := M9.nextV hb10
      have C3' := C3'.nextC hb10
      have C4' := C4'.nextC hb10
      have I5 := I5.nextC hb10
      have I6 := I6.nextC hb10
      have S7 := S7.next hb10
      have S8 := S8.next hb10
      have hbel10 := below_chain hbel9 hb10
      clear M9
      go_wp2_with fail
      refine (rValidB_any 2 ao m cap L2 F w10 M10 (by omega) (fun i _ => HL.out i) (by decide) HF.out (lv_small hm6)).mono ?_; rw [Hbs.out]; rintro e w11 ⟨rfl, hb11⟩
      have C3' := C3'.nextC hb11
      have C4' := C4'.nextC hb11
      have I5 := I5.nextC hb11
      have I6 := I6.nextC hb11
      have S7 := S7.next hb11
      have S8 := S8.next hb11
      have hbel11 := below_chain hbel10 hb11
      clear M10
      go_wp2_with fail
      refine (sameV_any len C C (fun _ _ => rfl) _ _ _ _ _ C3' C4').mono ?_; rintro e w12 ⟨rfl, hb12⟩
      have I5 := I5.nextC hb12
      have I6 := I6.nextC hb12
      have S7 := S7.next hb12
      have S8 := S8.next hb12
      have hbel12 := below_chain hbel11 hb12
      clear C3' C4'
      go_wp2_with fail
      refine (sameM_any Mi Li Fi Fi (fun _ _ _ _ => rfl) _ _ _ _ _ I5 I6).mono ?_; rintro e w13 ⟨rfl, hb13⟩
      have S7 := S7.next hb13
      have S8 := S8.next hb13
      have hbel13 := below_chain hbel12 hb13
      clear I5 I6
      go_wp2_with fail
      refine (rwSame_any s s _ _ _ _ _ _ _ S7 S8).mono ?_; rw [show decide (s = s) = true by simp]; rintro e w14 ⟨rfl, q, rfl⟩
      have hbel14 := below_chain hbel13 (below_drewNs q)
      go_wp2_with fail
      go_ret
      exact ⟨rfl, hbel14⟩

end Go.Proofs.Ytcoidofchofljaa
