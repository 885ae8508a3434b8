/-
  The contract of fraction.rat. Its conditions: the denominator is not 0; sizes.
-/
import Derived.Test.YteancfcmiiddiaaRatB
namespace Go.Proofs.Yteancfcmiiddiaa
open Go.RowKit
set_option linter.unusedSimpArgs false
set_option linter.unusedVariables false

/-- Behind a boxed argument of three cells and the three cells of a result. -/
structure Two (w : World) (x y z r0 r1 r2 : Value) (w' : World) : Prop where
  c0 : w'.cell? ⟨w.heap.size, 0, none⟩ = some x
  c1 : w'.cell? ⟨w.heap.size, 1, none⟩ = some y
  c2 : w'.cell? ⟨w.heap.size, 2, none⟩ = some z
  d0 : w'.cell? ⟨w.heap.size + 1, 0, none⟩ = some r0
  d1 : w'.cell? ⟨w.heap.size + 1, 1, none⟩ = some r1
  d2 : w'.cell? ⟨w.heap.size + 1, 2, none⟩ = some r2
  g0 : w'.frozen? ⟨w.heap.size + 1, 0, none⟩ = false
  g1 : w'.frozen? ⟨w.heap.size + 1, 1, none⟩ = false
  g2 : w'.frozen? ⟨w.heap.size + 1, 2, none⟩ = false
  hz : w.heap.size + 1 < w'.heap.size
  bel : Below w.heap.size w w'
  far : ∀ i v, w'.cell? ⟨w.heap.size + 1, i, none⟩ = some v → v = r0 ∨ v = r1 ∨ v = r2

theorem Two.start (w : World) (x y z r0 r1 r2 : Value) (T1 T2 : TypeId) : Two w x y z r0 r1 r2 ((w.alloc (.cells #[x, y, z] T1)).alloc (.cells #[r0, r1, r2] T2)) := by
  refine ⟨?_, ?_, ?_, ?_, ?_, ?_, ?_, ?_, ?_, by simp, ((Below.refl _ _).alloc (Nat.le_refl _) _).alloc (by simp) _, ?_⟩
  case refine_10 =>
    intro i v hv
    rw [World.cell?_alloc_at _ _ _ _ (by simp)] at hv
    match i, hv with
    | 0, hv => exact .inl (by simpa using hv.symm)
    | 1, hv => exact .inr (.inl (by simpa using hv.symm))
    | 2, hv => exact .inr (.inr (by simpa using hv.symm))
    | i + 3, hv => simp at hv
  all_goals simp [go_sem]

theorem Two.next {w : World} {x y z r0 r1 r2 : Value} {w' w'' : World} (h : Two w x y z r0 r1 r2 w') (hb : Below w'.heap.size w' w'') : Two w x y z r0 r1 r2 w'' := by
  have hz := h.hz
  have hs := hb.size
  exact ⟨cell_later hb h.c0, cell_later hb h.c1, cell_later hb h.c2, cell_later hb h.d0, cell_later hb h.d1, cell_later hb h.d2, (hb.frozen (p := ⟨w.heap.size + 1, 0, none⟩) hz).trans h.g0, (hb.frozen (p := ⟨w.heap.size + 1, 1, none⟩) hz).trans h.g1,
    (hb.frozen (p := ⟨w.heap.size + 1, 2, none⟩) hz).trans h.g2, by omega, below_chain h.bel hb, fun i v hv => h.far i v (by rw [← hb.cell (p := ⟨w.heap.size + 1, i, none⟩) hz]; exact hv)⟩

theorem ownsSlz {w : World} {base : Nat} {e : TypeId} {v : Value} {n : Nat} {xs : List Value} (h : w.ownsRow base e 1 v n xs) : ∃ ao cap, v = .slice ao n cap ∧ Sl w ao n cap xs ∧ (ao = none → cap = 0) := by
  obtain ⟨ao, cap, rfl, hs⟩ := ownsSl h
  refine ⟨ao, cap, rfl, hs, ?_⟩
  rintro rfl
  rcases h.2 with ⟨hv, _⟩ | ⟨g, c, cur, hv, _⟩
  · injection hv
  · injection hv with e1; cases e1

theorem cmp_eq {w : World} {ao bo : Option Addr} {n m cap cap' : Nat} (a b : Nat) (x : Int) (hx : ord a b = x) (hA : Sl w ao n cap (u32s (dig a))) (hB : Sl w bo m cap' (u32s (dig b))) :
    Calls Try.prog 153 #[.slice ao n cap, .slice bo m cap'] w fun e w' => e = .returned (.int .i64 x) ∧ w = w' := by
  have := cmpD a b hA hB
  rwa [hx] at this

theorem ord_one {g : Nat} (h0 : g ≠ 0) (h1 : g ≠ 1) : ord g 1 = 1 := by unfold ord; rw [if_neg (by omega), if_neg h1]

theorem ratC_of {w : World} {neg : Bool} {a b : Nat} (ha : a ≠ 0) (hb : b ≠ 0) {ao bo : Option Addr} {n cap m cap' : Nat} (h1 : Sl w ao n cap (u32s (dig (a / Nat.gcd a b)))) (h2 : Sl w bo m cap' (u32s (if b / Nat.gcd a b = 1 then [] else dig (b / Nat.gcd a b))))
    (hz : ao = none → cap = 0) (hz' : bo = none → cap' = 0) : RatC w (.agg #[.bool neg, .slice ao n cap, .slice bo m cap']) (mkRat (sgn neg a) b) := by
  obtain ⟨e1, e2, e3⟩ := mk_reduce neg ha hb
  refine ⟨ao, bo, n, cap, m, cap', by rw [e3], by rw [e1]; exact h1, ?_, hz, hz'⟩
  unfold denL
  rw [e2]; exact h2

theorem Two.off {w : World} {x y z : Value} {b0 : Bool} {a1 a2 : Option Addr} {n1 n2 k1 k2 : Nat} {w' : World} (h : Two w x y z (.bool b0) (.slice a1 n1 k1) (.slice a2 n2 k2) w') {ao : Option Addr} {n cap : Nat} {l : List Nat} (s : Sl w' ao n cap (u32s l)) : Off (w.heap.size + 1) ao n := by
  rintro a rfl hn e
  have hl := s.lenU
  obtain ⟨x, _, b, off, e2, hc⟩ := s.u32 (show 0 < n by omega)
  obtain rfl := Option.some.inj e2
  simp only at e
  subst e
  rcases h.far _ _ hc with h1 | h1 | h1 <;> cases h1

theorem ratC_zero (w : World) : RatC w (.agg #[.bool false, .slice none 0 0, .slice none 0 0]) 0 :=
  ⟨none, none, 0, 0, 0, 0, rfl, by rw [show (0 : Rat).num.natAbs = 0 from rfl, dig_zero]; exact Sl.nil _, Sl.nil _, fun _ => rfl, fun _ => rfl⟩

/-- The result is stored. -/
theorem Two.out {w : World} {x y z : Value} {b0 : Bool} {a1 a2 : Option Addr} {n1 n2 k1 k2 : Nat} {W : World} (h : Two w x y z (.bool b0) (.slice a1 n1 k1) (.slice a2 n2 k2) W) {neg : Bool} {a b : Nat} (ha : a ≠ 0) (hb : b ≠ 0) {ao bo : Option Addr} {n cap m cap' : Nat}
    (s1 : Sl W ao n cap (u32s (dig (a / Nat.gcd a b)))) (s2 : Sl W bo m cap' (u32s (if b / Nat.gcd a b = 1 then [] else dig (b / Nat.gcd a b)))) (hz : ao = none → cap = 0) (hz' : bo = none → cap' = 0) :
    RatOut w (mkRat (sgn neg a) b) (.returned (.agg #[.bool neg, .slice ao n cap, .slice bo m cap'])) (((W.setCell ⟨w.heap.size + 1, 0, none⟩ (.bool neg)).setCell ⟨w.heap.size + 1, 1, none⟩ (.slice ao n cap)).setCell ⟨w.heap.size + 1, 2, none⟩ (.slice bo m cap')) :=
  ⟨_, rfl, ratC_of ha hb (s1.set3 (h.off s1) _ _ _) (s2.set3 (by
    split at s2
    · have := s2.len; simp [u32s] at this; subst this; intro _ _ h; exact absurd rfl h
    · exact h.off s2) _ _ _) hz hz', below_set3 h.bel (by omega) _ _ _⟩

set_option maxHeartbeats 2000000 in
theorem rat_any (neg : Bool) (a b : Nat) (v : Value) (w : World) (h : FrV w v neg a b) (ha : lim a ≤ 17179869184) (hb : lim b ≤ 17179869184) :
    Calls Try.prog 127 #[v] w (RatOut w (mkRat (sgn neg a) b)) := by
  obtain ⟨ao, bo, n, cap, m, cap', rfl, sN, sD, hza, hzb, hb0⟩ := h
  have hn : n ≤ 17179869184 := by rw [← sN.lenU]; exact ha
  have hm : m ≤ 17179869184 := by rw [← sD.lenU]; exact hb
  have hnl := hid sN.lenU
  by_cases ha0 : a = 0
  · subst ha0
    have : n = 0 := by have := hnl.out; rw [dig_zero] at this; exact this.symm
    subst this
    have h0 : mkRat (sgn neg 0) b = 0 := by cases neg <;> simp [sgn]
    rw [h0]
    clear h0
    go_enter Try.func127, Try.ntmps127
    go_wp2_with fail
    refine bodyPost_ret (v := .agg #[.bool false, .slice none 0 0, .slice none 0 0]) (by simp [results, Try.results127, go_sem]) rfl ?_
    exact ⟨_, rfl, ratC_zero _, ((Below.refl _ _).alloc (Nat.le_refl _) _).alloc (by simp) _⟩
  · have hn0 : 1 ≤ n := by
      have := hnl.out
      cases n with
      | zero => exact absurd (List.eq_nil_of_length_eq_zero this) (fun h => ha0 (dig_nil.1 h))
      | succ n => omega
    go_enter Try.func127, Try.ntmps127
    go_wp2_with fail
    have ht := Two.start w (.bool neg) (.slice ao n cap) (.slice bo m cap') (.bool false) (.slice none 0 0) (.slice none 0 0) 122 54
    generalize (w.alloc (Obj.cells #[Value.bool neg, Value.slice ao n cap, Value.slice bo m cap'] 122)).alloc (Obj.cells #[Value.bool false, Value.slice none 0 0, Value.slice none 0 0] 54) = W at *
    have hK' : ∀ w' w'', (w'.cell? ⟨w.heap.size, 1, none⟩ = some (.slice ao n cap) ∧ w'.cell? ⟨w.heap.size, 2, none⟩ = some (.slice bo m cap') ∧ Two w (.bool neg) (.slice ao n cap) (.slice bo m cap') (.bool false) (.slice none 0 0) (.slice none 0 0) w') → Below w'.heap.size w' w'' →
        (w''.cell? ⟨w.heap.size, 1, none⟩ = some (.slice ao n cap) ∧ w''.cell? ⟨w.heap.size, 2, none⟩ = some (.slice bo m cap') ∧ Two w (.bool neg) (.slice ao n cap) (.slice bo m cap') (.bool false) (.slice none 0 0) (.slice none 0 0) w'') :=
      fun w' w'' h hb => have t := h.2.2.next hb; ⟨t.c1, t.c2, t⟩
    have ht1 := ht.next (Below.refl _ W).drew
    go_region_held3 (fun w' => w'.cell? ⟨w.heap.size, 1, none⟩ = some (.slice ao n cap) ∧ w'.cell? ⟨w.heap.size, 2, none⟩ = some (.slice bo m cap') ∧ Two w (.bool neg) (.slice ao n cap) (.slice bo m cap') (.bool false) (.slice none 0 0) (.slice none 0 0) w')
      (first | assumption | exact ⟨ht1.c1, ht1.c2, ht1⟩ | exact hK' _ _ (by assumption) hba | exact hK' _ _ (by assumption) hbb | exact hK' W.drew _ ⟨ht1.c1, ht1.c2, ht1⟩ hba)
      (first
        | (go_at_call_of 155 (Value.slice ao n cap); refine (cloneU_any (dig a) ao n cap _ (sN.next ht1.bel) (by omega)).mono ?_; rintro e wa ⟨va, rfl, owna, hba⟩)
        | (go_at_call_of 155 (Value.slice bo m cap'); refine (cloneU_any (dig b) bo m cap' _ (sD.next (below_chain ht1.bel hba)) (by omega)).mono ?_; rintro e wb ⟨vb, rfl, ownb, hbb⟩))
    have hWb : Below W.heap.size W wb := below_chain (Below.refl _ W).drew (below_chain hba hbb)
    have tb := ht.next hWb
    obtain ⟨ao2, cap2, rfl, sa, hz2⟩ := ownsSlz owna
    obtain ⟨bo2, cap3, rfl, sb, hz3⟩ := ownsSlz ownb
    have sa := sa.next hbb
    clear owna ownb
    obtain ⟨G, hG⟩ : ∃ G, Nat.gcd a b = G := ⟨_, rfl⟩
    have hG0 : G ≠ 0 := by rw [← hG]; exact fun h => ha0 (Nat.gcd_eq_zero_iff.1 h).1
    have hGl : lim G ≤ 17179869184 := Nat.le_trans (lim_mono (by rw [← hG]; exact Nat.gcd_le_left _ (Nat.pos_of_ne_zero ha0))) ha
    have HG := hid hG; clear hG
    go_wp2_with fail
    refine (gcd_any a b _ _ _ _ _ _ _ sa sb hz2 hz3 hn hm).mono ?_; rintro e w3 ⟨go, gn, gc, rfl, sg, hzg, hb3⟩
    rw [HG.out] at sg
    have hAl : lim (a / G) ≤ 17179869184 := Nat.le_trans (lim_mono (Nat.div_le_self _ _)) ha
    have hBl : lim (b / G) ≤ 17179869184 := Nat.le_trans (lim_mono (Nat.div_le_self _ _)) hb
    have hB0 : b / G ≠ 0 := by
      have h1 := Nat.div_mul_cancel (Nat.gcd_dvd_right a b)
      rw [HG.out] at h1
      intro h; rw [h] at h1; omega
    have sa3 := sa.next hb3
    have sb3 := sb.next hb3
    have ht3 := (ht.next hWb).next hb3
    by_cases hG1 : G = 1
    · subst hG1
      go_wp2_with fail
      refine (one_any _).mono ?_; rintro e w4 ⟨rfl, s4, hb4⟩
      have ht4 := ht3.next hb4
      go_wp2_with fail
      refine (cmp_eq 1 1 0 rfl (sg.next hb4) s4).mono ?_; rintro e w4' ⟨rfl, rfl⟩
      go_wp2_with fail
      refine (one_any _).mono ?_; rintro e w5 ⟨rfl, s5, hb5⟩
      have ht5 := ht4.next hb5
      have sb5 := (sb3.next hb4).next hb5
      have sa5 := (sa3.next hb4).next hb5
      have fin := fun (bo' : Option Addr) (m' c' : Nat) (s2 : Sl w5 bo' m' c' (u32s (if b / Nat.gcd a b = 1 then [] else dig (b / Nat.gcd a b)))) (hz' : bo' = none → c' = 0) => ht5.out (neg := neg) ha0 hb0 (by rw [HG.out, Nat.div_one]; exact sa5) s2 hz2 hz'
      have Fin := hid fin; clear fin
      by_cases hB1 : b = 1
      · subst hB1
        obtain ⟨c0, c1, c2, d0, d1, d2, g0, g1, g2, hz, hbel, _⟩ := ht5
        go_wp2_with fail
        refine (cmp_eq 1 1 0 rfl sb5 s5).mono ?_; rintro e w5' ⟨rfl, rfl⟩
        go_wp2_with fail
        refine bodyPost_ret (v := .agg #[.bool neg, .slice ao2 n cap2, .slice none 0 0]) (by simp [results, Try.results127, go_sem, d0, d1, d2]) rfl ?_
        exact Fin.out none 0 0 (by rw [HG.out]; exact Sl.nil _) (fun _ => rfl)
      · obtain ⟨c0, c1, c2, d0, d1, d2, g0, g1, g2, hz, hbel, _⟩ := ht5
        go_wp2_with fail
        refine (cmp_eq b 1 1 (ord_one hb0 hB1) sb5 s5).mono ?_; rintro e w5' ⟨rfl, rfl⟩
        go_wp2_with fail
        refine bodyPost_ret (v := .agg #[.bool neg, .slice ao2 n cap2, .slice bo2 m cap3]) (by simp [results, Try.results127, go_sem, d0, d1, d2]) rfl ?_
        exact Fin.out bo2 m cap3 (by rw [HG.out, Nat.div_one, if_neg hB1]; exact sb5) hz3
    · have hgn : gn ≤ 17179869184 := by rw [← sg.lenU]; exact hGl
      go_wp2_with fail
      refine (one_any _).mono ?_; rintro e w4 ⟨rfl, s4, hb4⟩
      have ht4 := ht3.next hb4
      go_wp2_with fail
      refine (cmp_eq G 1 1 (ord_one hG0 hG1) (sg.next hb4) s4).mono ?_; rintro e w4' ⟨rfl, rfl⟩
      go_wp2_with fail
      refine (over_any a G hG0 _ _ _ _ _ _ _ (sa3.next hb4) (sg.next hb4) hn hgn).mono ?_; rintro e w5 ⟨qo, qn, qc, ro, rn, rc, rfl, sq, sr, hzq, hzr, hb5⟩
      go_wp2_with fail
      refine (over_any b G hG0 _ _ _ _ _ _ _ ((sb3.next hb4).next hb5) ((sg.next hb4).next hb5) hm hgn).mono ?_; rintro e w6 ⟨po, pn, pc, ro', rn', rc', rfl, sp, sr', hzp, hzr', hb6⟩
      go_wp2_with fail
      refine (one_any _).mono ?_; rintro e w7 ⟨rfl, s7, hb7⟩
      have ht7 := ((ht4.next hb5).next hb6).next hb7
      have sq7 := (sq.next hb6).next hb7
      have sp7 := sp.next hb7
      have fin := fun (bo' : Option Addr) (m' c' : Nat) (s2 : Sl w7 bo' m' c' (u32s (if b / Nat.gcd a b = 1 then [] else dig (b / Nat.gcd a b)))) (hz' : bo' = none → c' = 0) => ht7.out (neg := neg) ha0 hb0 (by rw [HG.out]; exact sq7) s2 hzq hz'
      have Fin := hid fin; clear fin
      obtain ⟨B, hB⟩ : ∃ B, b / G = B := ⟨_, rfl⟩
      rw [hB] at sp7 hB0
      have HB := hid hB; clear hB
      by_cases hB1 : B = 1
      · subst hB1
        obtain ⟨c0, c1, c2, d0, d1, d2, g0, g1, g2, hz, hbel, _⟩ := ht7
        go_wp2_with fail
        refine (cmp_eq 1 1 0 rfl sp7 s7).mono ?_; rintro e w5' ⟨rfl, rfl⟩
        go_wp2_with fail
        refine bodyPost_ret (v := .agg #[.bool neg, .slice qo qn qc, .slice none 0 0]) (by simp [results, Try.results127, go_sem, d0, d1, d2]) rfl ?_
        exact Fin.out none 0 0 (by rw [HG.out, HB.out]; exact Sl.nil _) (fun _ => rfl)
      · obtain ⟨c0, c1, c2, d0, d1, d2, g0, g1, g2, hz, hbel, _⟩ := ht7
        go_wp2_with fail
        refine (cmp_eq B 1 1 (ord_one hB0 hB1) sp7 s7).mono ?_; rintro e w5' ⟨rfl, rfl⟩
        go_wp2_with fail
        refine bodyPost_ret (v := .agg #[.bool neg, .slice qo qn qc, .slice po pn pc]) (by simp [results, Try.results127, go_sem, d0, d1, d2]) rfl ?_
        exact Fin.out po pn pc (by rw [HG.out, HB.out, if_neg hB1]; exact sp7) hzp

end Go.Proofs.Yteancfcmiiddiaa
