/-
  Joined out of XPrw, XPrx, XPry, XPrz.
-/
import Derived.Test.YtgohfieleckmgaaGreatDoorPut

/-
  The contracts of the reference's Constant, Parameter and Add (package weightedref02). No condition but sizes.
-/
namespace Go.Proofs.YtgohfieleckmgaaGreatDoor
open Go.RowKit
set_option linter.unusedSimpArgs false
set_option linter.unusedVariables false

theorem rone_any (w : World) : Calls Tryz.prog 30 #[.int .i64 1, .int .i64 1] w (RatOut w 1) := by
  have := rOf_any 1 1 (by decide) (by decide) (by decide) (by decide) w
  rwa [make_one] at this
theorem putQ2_zero (q : Rat) : EqP (putQ2 (fun _ => 0) (0, 0, 0) q) (constP q) := fun e _ => by
  unfold putQ2
  rw [if_pos (by decide), zero_addP]; rfl
theorem rput0_any (q : Rat) (s : Bool) (xo : Option Addr) (xn xc : Nat) (yo : Option Addr) (yn yc : Nat) (w : World) (hr : RatC w (.agg #[.bool s, .slice xo xn xc, .slice yo yn yc]) q) (k : Nat) (hq : Fit k q) (hk : k ≤ 4294967296) :
    Calls Tryz.prog 57 #[.slice none 0 0, .agg #[.int .i64 0, .int .i64 0, .int .i64 0, .bool s, .slice xo xn xc, .slice yo yn yc]] w (PolOut w (constP q)) := by
  have h := rput_any (fun _ => 0) 0 0 0 q none 0 s xo xn xc yo yn yc w (by unfold PolC; rw [lst_zero]; exact Pol.nil _ _) hr k (fitP_zero hq.pos) hq hk
  rw [lst_zero] at h
  exact h.mono fun e w' h => h.congr (putQ2_zero q)

set_option maxHeartbeats 1000000 in
theorem rPConst_any (q : Rat) (v : Value) (w : World) (h : RatV w v q) (k : Nat) (hq : Fit k q) (hk : k ≤ 4294967296) : Calls Tryz.prog 33 #[v] w (PolOut w (constP q)) := by
  obtain ⟨s, ao, n, cap, bo, m, cap', rfl⟩ := h.shape
  have hb0 : Below w.heap.size w (w.alloc (.cells #[.bool s, .slice ao n cap, .slice bo m cap'] 25)) := below_alloc _
  have hC : C3 w.heap.size (.bool s) (.slice ao n cap) (.slice bo m cap') (w.alloc (.cells #[.bool s, .slice ao n cap, .slice bo m cap'] 25)) := C3.here w _ rfl
  obtain ⟨c0, c1, c2⟩ := hC
  have hr := h.next hb0
  have Hq := hid hq
  clear h hq
  go_enter Tryz.func33, Tryz.ntmps33
  go_wp2_with fail
  refine (rTake_any q _ _ hr).mono ?_; rintro e w1 ⟨v1, rfl, C1, hb1⟩
  obtain ⟨t, to', tn, tc, uo, un, uc, rfl⟩ := C1.shape6
  have hbel := below_chain hb0 hb1
  have hput := hid (rput0_any q t to' tn tc uo un uc w1 C1 k Hq.out hk)
  clear c0 c1 c2 hr hb0 hb1
  go_wp2_with fail
  refine hput.out.mono ?_; rintro e w2 ⟨po, pc, rfl, hP, hb2⟩
  have hbel2 := below_chain hbel hb2
  clear C1 hput
  go_wp2_with fail
  go_ret
  exact ⟨po, pc, rfl, hP, hbel2⟩

set_option maxHeartbeats 2000000 in
theorem rPParam_any (i : Int) (w : World) : Calls Tryz.prog 35 #[.int .i64 i] w (PolOut w (paramP i)) := by
  by_cases hi : 0 ≤ i ∧ i < 3
  · rcases (by omega : i = 0 ∨ i = 1 ∨ i = 2) with rfl | rfl | rfl
    · go_enter Tryz.func35, Tryz.ntmps35
      go_wp2_with fail
      refine (rone_any _).mono ?_; rintro e w1 ⟨v1, rfl, C1, hb1⟩
      obtain ⟨rb, ro, rn, rc, so, sn, sc, rfl⟩ := C1.shape
      have hG := H6.fresh w1 0 0 0 rb ro rn rc so sn sc 59
      obtain ⟨⟨x0, x1, x2⟩, x3, x4, x5⟩ := hG
      simp only [Nat.zero_add] at x1 x2 x3 x4 x5
      have hfr : (w1.alloc (.cells #[.int .i64 0, .int .i64 0, .int .i64 0, .bool rb, .slice ro rn rc, .slice so sn sc] 59)).frozen? ⟨w1.heap.size, 0, none⟩ = false := by simp [go_sem]
      have hbA : Below w1.heap.size w1 (w1.alloc (.cells #[.int .i64 1, .int .i64 0, .int .i64 0, .bool rb, .slice ro rn rc, .slice so sn sc] 59)) := below_alloc _
      have hbN := below_alloc (w := w1.alloc (.cells #[.int .i64 1, .int .i64 0, .int .i64 0, .bool rb, .slice ro rn rc, .slice so sn sc] 59)) (.cells #[.int .i64 1, .int .i64 0, .int .i64 0, .bool rb, .slice ro rn rc, .slice so sn sc] 59)
      have hres := hid (polC_one (i := 0) (by decide) (x := 1) (y := 0) (z := 0) rfl (H6.fresh' _ 1 0 0 rb ro rn rc so sn sc 59 (w1.heap.size + 1) (by simp)) ((C1.next hbA).next hbN))
      have hbel := hid (below_chain (below_chain hb1 hbA) hbN)
      clear hbA hbN
      go_wp2_with fail
      go_ret
      exact ⟨some ⟨w1.heap.size + 1, 0, none⟩, 1, by rw [hres.out.1]; rfl, hres.out.2, hbel.out⟩
    · go_enter Tryz.func35, Tryz.ntmps35
      go_wp2_with fail
      refine (rone_any _).mono ?_; rintro e w1 ⟨v1, rfl, C1, hb1⟩
      obtain ⟨rb, ro, rn, rc, so, sn, sc, rfl⟩ := C1.shape
      have hG := H6.fresh w1 0 0 0 rb ro rn rc so sn sc 59
      obtain ⟨⟨x0, x1, x2⟩, x3, x4, x5⟩ := hG
      simp only [Nat.zero_add] at x1 x2 x3 x4 x5
      have hfr : (w1.alloc (.cells #[.int .i64 0, .int .i64 0, .int .i64 0, .bool rb, .slice ro rn rc, .slice so sn sc] 59)).frozen? ⟨w1.heap.size, 1, none⟩ = false := by simp [go_sem]
      have hbA : Below w1.heap.size w1 (w1.alloc (.cells #[.int .i64 0, .int .i64 1, .int .i64 0, .bool rb, .slice ro rn rc, .slice so sn sc] 59)) := below_alloc _
      have hbN := below_alloc (w := w1.alloc (.cells #[.int .i64 0, .int .i64 1, .int .i64 0, .bool rb, .slice ro rn rc, .slice so sn sc] 59)) (.cells #[.int .i64 0, .int .i64 1, .int .i64 0, .bool rb, .slice ro rn rc, .slice so sn sc] 59)
      have hres := hid (polC_one (i := 1) (by decide) (x := 0) (y := 1) (z := 0) rfl (H6.fresh' _ 0 1 0 rb ro rn rc so sn sc 59 (w1.heap.size + 1) (by simp)) ((C1.next hbA).next hbN))
      have hbel := hid (below_chain (below_chain hb1 hbA) hbN)
      clear hbA hbN
      go_wp2_with fail
      go_ret
      exact ⟨some ⟨w1.heap.size + 1, 0, none⟩, 1, by rw [hres.out.1]; rfl, hres.out.2, hbel.out⟩
    · go_enter Tryz.func35, Tryz.ntmps35
      go_wp2_with fail
      refine (rone_any _).mono ?_; rintro e w1 ⟨v1, rfl, C1, hb1⟩
      obtain ⟨rb, ro, rn, rc, so, sn, sc, rfl⟩ := C1.shape
      have hG := H6.fresh w1 0 0 0 rb ro rn rc so sn sc 59
      obtain ⟨⟨x0, x1, x2⟩, x3, x4, x5⟩ := hG
      simp only [Nat.zero_add] at x1 x2 x3 x4 x5
      have hfr : (w1.alloc (.cells #[.int .i64 0, .int .i64 0, .int .i64 0, .bool rb, .slice ro rn rc, .slice so sn sc] 59)).frozen? ⟨w1.heap.size, 2, none⟩ = false := by simp [go_sem]
      have hbA : Below w1.heap.size w1 (w1.alloc (.cells #[.int .i64 0, .int .i64 0, .int .i64 1, .bool rb, .slice ro rn rc, .slice so sn sc] 59)) := below_alloc _
      have hbN := below_alloc (w := w1.alloc (.cells #[.int .i64 0, .int .i64 0, .int .i64 1, .bool rb, .slice ro rn rc, .slice so sn sc] 59)) (.cells #[.int .i64 0, .int .i64 0, .int .i64 1, .bool rb, .slice ro rn rc, .slice so sn sc] 59)
      have hres := hid (polC_one (i := 2) (by decide) (x := 0) (y := 0) (z := 1) rfl (H6.fresh' _ 0 0 1 rb ro rn rc so sn sc 59 (w1.heap.size + 1) (by simp)) ((C1.next hbA).next hbN))
      have hbel := hid (below_chain (below_chain hb1 hbA) hbN)
      clear hbA hbN
      go_wp2_with fail
      go_ret
      exact ⟨some ⟨w1.heap.size + 1, 0, none⟩, 1, by rw [hres.out.1]; rfl, hres.out.2, hbel.out⟩
  · have hno := hid (param_no hi)
    have hnil : Hid (∀ W, PolC W none 0 (paramP i)) := hid (fun W => by unfold PolC; rw [hno.out]; exact Pol.nil _ _)
    by_cases h0 : i < 0
    · go_enter Tryz.func35, Tryz.ntmps35
      go_wp2_with fail
      go_ret
      exact ⟨none, 0, by rw [hno.out]; rfl, hnil.out _, Below.refl _ _⟩
    · have h3 : 3 ≤ i := by omega
      go_enter Tryz.func35, Tryz.ntmps35
      go_wp2_with fail
      go_ret
      exact ⟨none, 0, by rw [hno.out]; rfl, hnil.out _, Below.refl _ _⟩

/-- What stands in the sum when i monomials of Q have been put. -/
def addTo (P Q : Pl) (i : Nat) : Pl := addP P (cof ((lst Q).take i))
theorem addTo_zero (P Q : Pl) : addTo P Q 0 = P := by unfold addTo; rw [List.take_zero, cof_nil, addP_zero]
theorem addTo_step {P Q : Pl} {i : Nat} {e1 e2 e3 : Nat} {q : Rat} (hm : (lst Q)[i]? = some ((e1, e2, e3), q)) : putQ2 (addTo P Q i) ((e1 : Int), (e2 : Int), (e3 : Int)) q = addTo P Q (i + 1) := by
  have h1 := (lst_at (List.mem_of_getElem? hm)).1
  have h2 : okE ((e1 : Int), (e2 : Int), (e3 : Int)) = true := deg_okE (e := (e1, e2, e3)) h1
  unfold putQ2
  rw [if_pos h2]
  unfold addTo
  rw [cof_take hm]
  funext e
  show (_ + _) + _ = _ + (_ + _)
  have : exN ((e1 : Int), (e2 : Int), (e3 : Int)) = (e1, e2, e3) := rfl
  rw [this]
  grind
theorem addTo_end (P Q : Pl) : EqP (addTo P Q (lst Q).length) (addP P Q) := fun e he => by
  unfold addTo
  rw [List.take_length]
  show P e + cof (lst Q) e = P e + Q e
  rw [cof_lst Q e he]
theorem fit_addTo {P Q : Pl} {k : Nat} (hP : FitP k P) (hQ : FitP k Q) (i : Nat) : FitP (k + k + 1) (addTo P Q i) := FitP.add hP (fun e he => fit_part (List.take_sublist _ _) hQ e he)

set_option maxHeartbeats 2000000 in
theorem rPAdd_any (P Q : Pl) (v v2 : Value) (w : World) (h : PolV w v P) (h' : PolV w v2 Q) (k : Nat) (hP : FitP k P) (hQ : FitP k Q) (hk : k ≤ 2000000000) : Calls Tryz.prog 18 #[v, v2] w (PolOut w (addP P Q)) := by
  obtain ⟨_, _, _, _, rfl, _⟩ := id h
  obtain ⟨_, _, _, _, rfl, _⟩ := id h'
  have ht1 := hid (rPTake_any P _ _ h)
  have ht2 := hid (fun W (hb : Below w.heap.size w W) => rPTake_any Q _ W (h'.next hb))
  have hHP := hid hP
  have hHQ := hid hQ
  have hlen := len_lst Q
  obtain ⟨m, hm⟩ : ∃ m, (lst Q).length = m := ⟨_, rfl⟩
  have Hm := hid hm
  rw [hm] at hlen
  clear h h' hm hP hQ
  go_enter Tryz.func18, Tryz.ntmps18
  go_wp2_with fail
  refine ht1.out.mono ?_; rintro e w1 ⟨ao, cap, rfl, hP1, hb1⟩
  go_wp2_with fail
  refine (ht2.out _ hb1).mono ?_; rintro e w2 ⟨bo, cap', rfl, hQ2, hb2⟩
  have hP2 := hP1.next hb2
  have hbel2 := below_chain hb1 hb2
  unfold PolC at hQ2
  rw [Hm.out] at hQ2 ⊢
  clear hP1 hb1 hb2
  go_wp2_with fail
  go_loopw [5, 6] (fun ov iv wr => ∃ (i : Nat) (oo : Option Addr) (oc n : Nat), i ≤ m ∧ iv = .int .i64 i ∧ ov = .slice oo n oc ∧ Hid ((lst (addTo P Q i)).length = n) ∧ PolC wr oo oc (addTo P Q i) ∧ Pol RatC wr bo m cap' ((lst Q).map toM) ∧ Below w.heap.size w wr) (fun _ iv _ => m - (intOf iv).toNat)
  case atStart => exact ⟨0, ao, cap, _, by omega, rfl, rfl, hid (by rw [addTo_zero]), by rw [addTo_zero]; exact hP2, hQ2, hbel2⟩
  case round =>
    clear hP2 hQ2 hbel2
    obtain ⟨i, oo, oc, n, hi, rfl, rfl, hlo, hO, hQr, hbel⟩ := hrel
    by_cases hlt : i < m
    · obtain ⟨b, o, e1, e2, e3, q2, s2, xo2, xn2, xc2, yo2, yn2, yc2, hm, rfl, hx, hrq⟩ := hQr.atM hlt
      have hM := hid hm
      have i0 : (0 : Int) ≤ (i : Int) := by omega
      have i1 : (i : Int) < (m : Int) := by omega
      have hf2 := hHQ.out.mem (List.mem_of_getElem? hm)
      have hput := rput_any (addTo P Q i) (e1 : Int) (e2 : Int) (e3 : Int) q2 oo oc s2 xo2 xn2 xc2 yo2 yn2 yc2 wr hO hrq (k + k + 1) (fit_addTo hHP.out hHQ.out i) (hf2.mono (by omega)) (by omega)
      rw [hlo.out, addTo_step hM.out] at hput
      have Hput := hid hput
      obtain ⟨⟨x0, x1, x2⟩, x3, x4, x5⟩ := hx
      clear hput hf2 hm hrq hO
      go_wp2_with fail
      refine Hput.out.mono ?_; rintro e w3 ⟨po, pc, rfl, hP3, hb3⟩
      have hQ3 := Pol.nextC hQr hb3
      have hbel3 := below_chain hbel hb3
      clear x0 x1 x2 x3 x4 x5 hQr Hput hbel
      obtain ⟨n3, hn3⟩ : ∃ n3, (lst (addTo P Q (i + 1))).length = n3 := ⟨_, rfl⟩
      have Hn3 := hid hn3
      rw [hn3]
      clear hn3
      go_wp2_with fail
      go_roundw
      case rel => exact ⟨i + 1, po, pc, n3, by omega, by simp, rfl, Hn3, hP3, hQ3, hbel3⟩
      case measure => simp [intOf]; omega
    · obtain rfl : i = m := by omega
      have i1 : ¬ (i : Int) < (i : Int) := by omega
      have hend := hid (addTo_end P Q)
      have hll := hid (lst_congr (addTo_end P Q))
      rw [Hm.out] at hend hll
      clear hQr
      go_wp2_with fail
      go_ret
      exact ⟨oo, oc, by rw [← hll.out, hlo.out]; rfl, hO.congr hend.out, hbel⟩
end Go.Proofs.YtgohfieleckmgaaGreatDoor

/-
  The contract of the reference's Mul (package weightedref02). No condition but sizes.
-/
namespace Go.Proofs.YtgohfieleckmgaaGreatDoor
open Go.RowKit
set_option linter.unusedSimpArgs false
set_option linter.unusedVariables false

theorem putQ2_mul (S : Pl) (d1 d2 d3 : Nat) (q : Rat) : EqP (putQ2 S ((d1 : Int), (d2 : Int), (d3 : Int)) q) (addP S (monoP (d1, d2, d3) q)) := by
  intro e he
  unfold putQ2
  cases hok : okE ((d1 : Int), (d2 : Int), (d3 : Int)) with
  | true => rfl
  | false =>
    have hne : e ≠ (d1, d2, d3) := fun k => by
      subst k
      have := deg_okE (e := (d1, d2, d3)) he
      rw [show exI (d1, d2, d3) = ((d1 : Int), (d2 : Int), (d3 : Int)) from rfl, hok] at this
      cases this
    show S e = S e + (if e = (d1, d2, d3) then q else 0)
    rw [if_neg hne]; grind
section
variable {G : Nat} {w : World} {x y z : Int} {c c' : Bool × (Option Addr × Nat × Nat) × (Option Addr × Nat × Nat)}
theorem B6.putE0 (h : B6 G ((x, y, z), c) w) (x' : Int) : B6 G ((x', y, z), c) (w.setCell ⟨G, 0, none⟩ (.int .i64 x')) := by
  obtain ⟨T, hT⟩ := h
  exact ⟨T, heap_setCell_same w G 0 _ T _ hT⟩
theorem B6.putE1 (h : B6 G ((x, y, z), c) w) (y' : Int) : B6 G ((x, y', z), c) (w.setCell ⟨G, 1, none⟩ (.int .i64 y')) := by
  obtain ⟨T, hT⟩ := h
  exact ⟨T, heap_setCell_same w G 1 _ T _ hT⟩
theorem B6.putE2 (h : B6 G ((x, y, z), c) w) (z' : Int) : B6 G ((x, y, z'), c) (w.setCell ⟨G, 2, none⟩ (.int .i64 z')) := by
  obtain ⟨T, hT⟩ := h
  exact ⟨T, heap_setCell_same w G 2 _ T _ hT⟩
theorem grown_put1 (w : World) (G i : Nat) (x : Value) : w.grownBy (w.setCell ⟨G, i, none⟩ x) (some G) :=
  ⟨rfl, rfl, rfl, by simp, fun k hk hne => by rw [Below.heap_setCell _ _ _ _ (show k ≠ G from fun e => hne (by rw [e]))]⟩
theorem B6.rat {m : Mo} {u : Value} {q : Rat} (h : B6 G m w) (hr : RatC w u q) (i : Nat) (x : Value) : RatC (w.setCell ⟨G, i, none⟩ x) u q := by
  obtain ⟨T, hown⟩ := h.own
  exact hr.grownU hown isMon_u32 (grown_put1 w G i x)
/-- All six are stored. -/
abbrev set6 (w : World) (G : Nat) (a b d e f g : Value) : World := (((((w.setCell ⟨G, 0, none⟩ a).setCell ⟨G, 1, none⟩ b).setCell ⟨G, 2, none⟩ d).setCell ⟨G, 3, none⟩ e).setCell ⟨G, 4, none⟩ f).setCell ⟨G, 5, none⟩ g
theorem B6.all {x' y' z' : Int} (h : B6 G ((x, y, z), c) w) : B6 G ((x', y', z'), c') (set6 w G (.int .i64 x') (.int .i64 y') (.int .i64 z') (.bool c'.1) (.slice c'.2.1.1 c'.2.1.2.1 c'.2.1.2.2) (.slice c'.2.2.1 c'.2.2.2.1 c'.2.2.2.2)) :=
  ((((h.putE0 x').putE1 y').putE2 z')).put
theorem B6.rat6 {u : Value} {q : Rat} (h : B6 G ((x, y, z), c) w) (hr : RatC w u q) (x' y' z' : Int) : RatC (set6 w G (.int .i64 x') (.int .i64 y') (.int .i64 z') (.bool c'.1) (.slice c'.2.1.1 c'.2.1.2.1 c'.2.1.2.2) (.slice c'.2.2.1 c'.2.2.2.1 c'.2.2.2.2)) u q := by
  have h0 := h.putE0 x'
  have h1 := h0.putE1 y'
  have h2 := h1.putE2 z'
  have r2 := h1.rat (h0.rat (h.rat hr 0 (.int .i64 x')) 1 (.int .i64 y')) 2 (.int .i64 z')
  obtain ⟨T, hown⟩ := h2.own
  exact r2.grownU hown isMon_u32 (grown_put3 _ G _ _ _)
theorem below_set6 {v : World} {B : Nat} (h : Below B v w) (hG : B ≤ G) (a b d e f g : Value) : Below B v (set6 w G a b d e f g) :=
  (((((h.setCell hG _).setCell hG _).setCell hG _).setCell hG _).setCell hG _).setCell hG _
end
/-- Behind the product: it lies in a variable of its own. -/
def MulCut (w : World) (q : Rat) (s8 : Value) (wx : World) : Prop :=
  ∃ G t to' tn tc uo un uc, s8 = .pointer (some ⟨G, 0, none⟩) ∧ B6 G ((0, 0, 0), t, (to', tn, tc), (uo, un, uc)) wx ∧ RatC wx (.agg #[.bool t, .slice to' tn tc, .slice uo un uc]) q ∧ Below w.heap.size w wx ∧ w.heap.size ≤ G

set_option maxRecDepth 10000 in
set_option maxHeartbeats 8000000 in
theorem rPMul_any (P Q : Pl) (v v2 : Value) (w : World) (h : PolV w v P) (h' : PolV w v2 Q) (k l c : Nat) (hP : FitP k P) (hQ : FitP l Q) (hc : (lst P).length ≤ c ∨ (lst Q).length ≤ c) (hk : c * (k + l + 1) + k + l + 2 ≤ 4294967296) : Calls Tryz.prog 20 #[v, v2] w (PolOut w (mulP P Q)) := by
  obtain ⟨_, _, _, _, rfl, _⟩ := id h
  obtain ⟨_, _, _, _, rfl, _⟩ := id h'
  have ht1 := hid (rPTake_any P _ _ h)
  have ht2 := hid (fun W (hb : Below w.heap.size w W) => rPTake_any Q _ W (h'.next hb))
  obtain ⟨K, hK⟩ : ∃ K, c * (k + l + 1) + k + l + 2 = K := ⟨_, rfl⟩
  have hfit := hid (fun i j => by have := fit_mulTo hP hQ hc i j; rw [hK] at this; exact this)
  have hkK : k + l ≤ K := by rw [← hK]; generalize c * (k + l + 1) = t; omega
  have hPK := hid (hP.mono (show k ≤ K by omega))
  have hQK := hid (hQ.mono (show l ≤ K by omega))
  have hPk := hid hP
  have hQl := hid hQ
  rw [hK] at hk
  have hlP := len_lst P
  have hlQ := len_lst Q
  obtain ⟨n, hn⟩ : ∃ n, (lst P).length = n := ⟨_, rfl⟩
  obtain ⟨m, hm⟩ : ∃ m, (lst Q).length = m := ⟨_, rfl⟩
  have Hn := hid hn
  have Hm := hid hm
  have hend : Hid (EqP (mulTo P Q n 0) (mulP P Q)) := hid (by rw [← hn]; exact mulTo_end P Q)
  rw [hn] at hlP
  rw [hm] at hlQ
  clear h h' hn hm hP hQ hc hK
  go_enter Tryz.func20, Tryz.ntmps20
  go_wp2_with fail
  refine ht1.out.mono ?_; rintro e w1 ⟨ao, cap, rfl, hP1, hb1⟩
  unfold PolC at hP1
  rw [Hn.out] at hP1 ⊢
  go_wp2_with fail
  refine (ht2.out _ hb1).mono ?_; rintro e w2 ⟨bo, cap', rfl, hQ2, hb2⟩
  unfold PolC at hQ2
  rw [Hm.out] at hQ2 ⊢
  have hP2 := Pol.nextC hP1 hb2
  have hbel2 := below_chain hb1 hb2
  clear hP1 hb1 hb2 ht1 ht2
  go_wp2_with fail
  go_loopw [5, 6] (fun ov iv wr => ∃ (i : Nat) (oo : Option Addr) (oc N : Nat), i ≤ n ∧ iv = .int .i64 i ∧ ov = .slice oo N oc ∧ Hid ((lst (mulTo P Q i 0)).length = N) ∧ PolC wr oo oc (mulTo P Q i 0) ∧ Pol RatC wr ao n cap ((lst P).map toM) ∧ Pol RatC wr bo m cap' ((lst Q).map toM) ∧ Below w.heap.size w wr) (fun _ iv _ => n - (intOf iv).toNat)
  case atStart => exact ⟨0, none, 0, 0, by omega, rfl, rfl, hid (by rw [mulTo_zero, lst_zero]; rfl), by unfold PolC; rw [mulTo_zero, lst_zero]; exact Pol.nil _ _, hP2, hQ2, hbel2⟩
  case round =>
    clear hP2 hQ2 hbel2
    obtain ⟨i, oo, oc, N, hi, rfl, rfl, hlo, hO, hpP, hpQ, hbel⟩ := hrel
    by_cases hlt : i < n
    · obtain ⟨b, o, m1, m2, m3, qm, s, xo, xn, xc, yo, yn, yc, hgm, rfl, _, _⟩ := hpP.atM hlt
      have Hgm := hid hgm
      clear hgm
      go_wp2_with fail
      go_loopw [5, 7] (fun ov jv wr => ∃ (j : Nat) (oo : Option Addr) (oc N : Nat), j ≤ m ∧ jv = .int .i64 j ∧ ov = .slice oo N oc ∧ Hid ((lst (mulTo P Q i j)).length = N) ∧ PolC wr oo oc (mulTo P Q i j) ∧ Pol RatC wr (some ⟨b, o, none⟩) n cap ((lst P).map toM) ∧ Pol RatC wr bo m cap' ((lst Q).map toM) ∧ Below w.heap.size w wr) (fun _ jv _ => m - (intOf jv).toNat)
      case atStart => exact ⟨0, oo, oc, N, by omega, rfl, rfl, hlo, hO, hpP, hpQ, hbel⟩
      case round =>
        clear hO hpP hpQ hbel hlo
        obtain ⟨j, oo, oc, N, hj, rfl, rfl, hlo, hO, hpP, hpQ, hbel⟩ := hrel
        rename World => Wj
        by_cases hjm : j < m
        · obtain ⟨b', o', m1', m2', m3', qm', s, xo, xn, xc, yo, yn, yc, hgm', hbo, hX, hrm⟩ := hpP.atM hlt
          obtain ⟨e1, e2⟩ : b' = b ∧ o' = o := by injection hbo with hbo; injection hbo with h1 h2; exact ⟨h1.symm, h2.symm⟩
          subst e1 e2
          obtain ⟨e3, e4⟩ : (m1', m2', m3') = (m1, m2, m3) ∧ qm' = qm := by
            rw [Hgm.out] at hgm'
            injection hgm' with hh
            injection hh with h1 h2
            exact ⟨h1.symm, h2.symm⟩
          simp only [Prod.mk.injEq] at e3
          obtain ⟨e5, e6, e7⟩ := e3
          subst e4 e5 e6 e7
          obtain ⟨b9, o9, n1, n2, n3, qn, s', xo', xn', xc', yo', yn', yc', hgn, rfl, hX9, hrn⟩ := hpQ.atM hjm
          obtain ⟨d1, hd1⟩ : ∃ d, m1' + n1 = d := ⟨_, rfl⟩
          obtain ⟨d2, hd2⟩ : ∃ d, m2' + n2 = d := ⟨_, rfl⟩
          obtain ⟨d3, hd3⟩ : ∃ d, m3' + n3 = d := ⟨_, rfl⟩
          have hmem := lst_at (List.mem_of_getElem? Hgm.out)
          have hmen := lst_at (List.mem_of_getElem? hgn)
          have hbig : Hid (m1' ≤ 5 ∧ m2' ≤ 5 ∧ m3' ≤ 5 ∧ n1 ≤ 5 ∧ n2 ≤ 5 ∧ n3 ≤ 5) := hid (by have h1 := hmem.1; have h2 := hmen.1; unfold deg at h1 h2; simp only at h1 h2; omega)
          have w1' : IntKind.i64.wrap ((m1' : Int) + (n1 : Int)) = (d1 : Int) := by rw [IntKind.wrap_i64]; have := hbig.out; omega
          have w2' : IntKind.i64.wrap ((m2' : Int) + (n2 : Int)) = (d2 : Int) := by rw [IntKind.wrap_i64]; have := hbig.out; omega
          have w3' : IntKind.i64.wrap ((m3' : Int) + (n3 : Int)) = (d3 : Int) := by rw [IntKind.wrap_i64]; have := hbig.out; omega
          have hstep : Hid (EqP (putQ2 (mulTo P Q i j) ((d1 : Int), (d2 : Int), (d3 : Int)) (qm' * qn)) (mulTo P Q i (j + 1))) := hid (by
            rw [mulTo_step Hgm.out hgn]
            have := putQ2_mul (mulTo P Q i j) d1 d2 d3 (qm' * qn)
            rw [← hd1, ← hd2, ← hd3] at this ⊢
            exact this)
          have hfm := hid (hPK.out.mem (List.mem_of_getElem? Hgm.out))
          have hfn := hid (hQK.out.mem (List.mem_of_getElem? hgn))
          have hfmn : Hid (Fit K (qm' * qn)) := hid ((fit_mul (hPk.out.mem (List.mem_of_getElem? Hgm.out)) (hQl.out.mem (List.mem_of_getElem? hgn))).mono hkK)
          have hdd : Below Wj.heap.size Wj Wj.drew := (Below.refl _ _).drew
          have hS0 := And.intro (H6.next hX hdd) (H6.next hX9 hdd)
          have hrmV := (hrm.next hdd).toV hfm.out (by omega)
          have hrnV := (hrn.next hdd).toV hfn.out (by omega)
          have hXw := hid hX
          have hX9w := hid hX9
          have hOw := hid hO
          have hPw := hid hpP
          have hQw := hid hpQ
          clear hd1 hd2 hd3 hmem hmen hgn hgm' hrm hrn hX hX9 hO hpP hpQ hbo
          go_upto_region 9 with fail
          go_cut [8] (fun s8 wx => MulCut Wj (qm' * qn) s8 wx)
          case first =>
            refine wp_region_D (fun w' => H6 b' (o' + i * 6) (m1' : Int) (m2' : Int) (m3' : Int) s xo xn xc yo yn yc w' ∧ H6 b9 (o9 + j * 6) (n1 : Int) (n2 : Int) (n3 : Int) s' xo' xn' xc' yo' yn' yc' w') [13] (by kernel_rfl) ?_
            obtain ⟨wd, hwd⟩ : ∃ W, Wj.drew = W := ⟨_, rfl⟩
            rw [hwd] at hS0 hrmV hrnV hdd ⊢
            clear hwd
            refine wpAnyD_take (i := 0) (v := ?_) rfl (by kernel_rfl) (by kernel_rfl) (by kernel_rfl) (by kernel_rfl) (fun _ _ _ h => h) (Or.inl ⟨by rfl, ?_⟩) hS0 ?_
            rotate_left
            · intro w _; first | (go_simp; done) | (go_simp; with_reducible rfl)
            refine wpAnyD_take (i := 1) (v := ?_) rfl (by kernel_rfl) (by kernel_rfl) (by kernel_rfl) (by kernel_rfl) (fun _ _ _ h => h) (Or.inl ⟨by rfl, ?_⟩) hS0 ?_
            rotate_left
            · intro w _; first | (go_simp; done) | (go_simp; with_reducible rfl)
            refine wpAnyD_take (i := 2) (v := ?_) rfl (by kernel_rfl) (by kernel_rfl) (by kernel_rfl) (by kernel_rfl) (fun _ _ _ h => h) (Or.inl ⟨by rfl, ?_⟩) hS0 ?_
            rotate_left
            · intro w _; first | (go_simp; done) | (go_simp; with_reducible rfl)
            refine wpAnyD_take (i := 3) (v := ?_) rfl (by kernel_rfl) (by kernel_rfl) (by kernel_rfl) (by kernel_rfl) (fun _ _ _ h => h) (Or.inl ⟨by rfl, ?_⟩) hS0 ?_
            rotate_left
            · intro w _; first | (go_simp; done) | (go_simp; with_reducible rfl)
            refine wpAnyD_take (i := 4) (v := ?_) rfl (by kernel_rfl) (by kernel_rfl) (by kernel_rfl) (by kernel_rfl) (fun _ _ _ h => h) (Or.inl ⟨by rfl, ?_⟩) hS0 ?_
            rotate_left
            · intro w hw; obtain ⟨⟨⟨s1', s2', s3'⟩, s4', s5', s6'⟩, ⟨t1', t2', t3'⟩, t4', t5', t6'⟩ := hw; first | (go_simp; done) | (go_simp; with_reducible rfl)
            refine wpAnyD_take (i := 5) (v := ?_) rfl (by kernel_rfl) (by kernel_rfl) (by kernel_rfl) (by kernel_rfl) (fun _ _ _ h => h) (Or.inl ⟨by rfl, ?_⟩) hS0 ?_
            rotate_left
            · intro w _; first | (go_simp; done) | (go_simp; with_reducible rfl)
            refine wpAnyD_take (i := 6) (v := ?_) rfl (by kernel_rfl) (by kernel_rfl) (by kernel_rfl) (by kernel_rfl) (fun _ _ _ h => h) (Or.inl ⟨by rfl, ?_⟩) hS0 ?_
            rotate_left
            · intro w _; first | (go_simp; done) | (go_simp; with_reducible rfl)
            refine wpAnyD_take (i := 7) (v := ?_) rfl (by kernel_rfl) (by kernel_rfl) (by kernel_rfl) (by kernel_rfl) (fun _ _ _ h => h) (Or.inl ⟨by rfl, ?_⟩) hS0 ?_
            rotate_left
            · intro w _; first | (go_simp; done) | (go_simp; with_reducible rfl)
            refine wpAnyD_take (i := 8) (v := ?_) rfl (by kernel_rfl) (by kernel_rfl) (by kernel_rfl) (by kernel_rfl) (fun _ _ _ h => h) (Or.inl ⟨by rfl, ?_⟩) hS0 ?_
            rotate_left
            · intro w _; first | (go_simp; done) | (go_simp; with_reducible rfl)
            refine wpAnyD_take (i := 9) (v := ?_) rfl (by kernel_rfl) (by kernel_rfl) (by kernel_rfl) (by kernel_rfl) (fun _ _ _ h => h) (Or.inl ⟨by rfl, ?_⟩) hS0 ?_
            rotate_left
            · intro w hw; obtain ⟨⟨⟨s1', s2', s3'⟩, s4', s5', s6'⟩, ⟨t1', t2', t3'⟩, t4', t5', t6'⟩ := hw; first | (go_simp; done) | (go_simp; with_reducible rfl)
            refine wpAnyD_two (i := 10) (j := 12) (by kernel_rfl) rfl rfl (fun KK hKK => ?_) (fun KK hKK => ?_)
            · skip
              go_simp
              go_at_call 41
              refine (rMul_any qm' qn _ _ _ hrmV hrnV K hfm.out hfn.out hk).mono ?_; rintro e w6 ⟨v6, rfl, C6, hb6⟩
              obtain ⟨t, to', tn, tc, uo, un, uc, rfl⟩ := C6.shape6
              have hS6 := And.intro (H6.next hS0.1 hb6) (H6.next hS0.2 hb6)
              refine hKK _ _ ⟨fun _ => hS6, ?_⟩; clear hKK KK
              refine wpAnyD_take (i := 11) (v := ?_) rfl (by kernel_rfl) (by kernel_rfl) (by kernel_rfl) (by kernel_rfl) (fun _ _ _ h => h) (Or.inl ⟨by rfl, ?_⟩) hS6 ?_
              rotate_left
              · intro w _; first | (go_simp; done) | (go_simp; with_reducible rfl)
              refine wpAnyD_one (i := 12) (by kernel_rfl) rfl (fun KK hKK => ?_)
              go_simp
              refine hKK _ _ ⟨fun _ => And.intro (H6.next hS6.1 (below_alloc (.cells #[.int .i64 0, .int .i64 0, .int .i64 0, .bool false, .slice none 0 0, .slice none 0 0] 59))) (H6.next hS6.2 (below_alloc (.cells #[.int .i64 0, .int .i64 0, .int .i64 0, .bool false, .slice none 0 0, .slice none 0 0] 59))), ?_⟩; clear hKK KK
              refine wpAnyD_one (i := 13) (by kernel_rfl) rfl (fun KK hKK => ?_)
              go_simp
              refine hKK _ _ ⟨fun hn => absurd (by simp) hn, ?_⟩; clear hKK KK
              refine wpAnyD_done (by kernel_rfl) ?_ _
              go_wp2_with fail
              go_meet
              exact ⟨_, _, _, _, _, _, _, _, rfl, B6.fresh w6 ((0, 0, 0), t, (to', tn, tc), (uo, un, uc)) _, C6.next (below_alloc _), below_chain (below_chain hdd hb6) (below_alloc _), (below_chain hdd hb6).size⟩
            · skip
              have hba := below_alloc (w := wd) (.cells #[.int .i64 0, .int .i64 0, .int .i64 0, .bool false, .slice none 0 0, .slice none 0 0] 59)
              have hBz := B6.fresh wd ((0, 0, 0), false, (none, 0, 0), (none, 0, 0)) 59
              obtain ⟨G, hGe⟩ : ∃ G, wd.heap.size = G := ⟨_, rfl⟩
              have hGw := hdd.size
              rw [hGe] at hBz hGw
              have hS1 := And.intro (H6.next hS0.1 hba) (H6.next hS0.2 hba)
              go_simp
              refine hKK _ _ ⟨fun _ => hS1, ?_⟩; clear hKK KK
              refine wpAnyD_one (i := 10) (by kernel_rfl) rfl (fun KK hKK => ?_)
              go_simp
              go_at_call 41
              refine (rMul_any qm' qn _ _ _ (hrmV.next hba) (hrnV.next hba) K hfm.out hfn.out hk).mono ?_; rintro e w6 ⟨v6, rfl, C6, hb6⟩
              obtain ⟨t, to', tn, tc, uo, un, uc, rfl⟩ := C6.shape6
              have hS6 := And.intro (H6.next hS1.1 hb6) (H6.next hS1.2 hb6)
              have hB6 : B6 G ((0, 0, 0), false, (none, 0, 0), (none, 0, 0)) w6 := B6.next hBz hb6
              refine hKK _ _ ⟨fun _ => hS6, ?_⟩; clear hKK KK
              refine wpAnyD_take (i := 11) (v := ?_) rfl (by kernel_rfl) (by kernel_rfl) (by kernel_rfl) (by kernel_rfl) (fun _ _ _ h => h) (Or.inl ⟨by rfl, ?_⟩) hS6 ?_
              rotate_left
              · intro w _; first | (go_simp; done) | (go_simp; with_reducible rfl)
              refine wpAnyD_one (i := 13) (by kernel_rfl) rfl (fun KK hKK => ?_)
              have hG9 := hB6.h6
              simp only [H6, H3, Nat.zero_add] at hG9
              obtain ⟨⟨x0, x1, x2⟩, x3, x4, x5⟩ := hG9
              have f0 := hB6.free 0
              have f1 := hB6.free 1
              have f2 := hB6.free 2
              have f3 := hB6.free 3
              have f4 := hB6.free 4
              have f5 := hB6.free 5
              go_simp
              refine hKK _ _ ⟨fun hn => absurd (by simp) hn, ?_⟩; clear hKK KK
              refine wpAnyD_done (by kernel_rfl) ?_ _
              go_wp2_with fail
              go_meet
              exact ⟨_, _, _, _, _, _, _, _, rfl, hB6.all (c' := (t, (to', tn, tc), (uo, un, uc))), hB6.rat6 (c' := (t, (to', tn, tc), (uo, un, uc))) C6 0 0 0, below_set6 (below_chain (below_chain hdd hba) hb6) hGw _ _ _ _ _ _, hGw⟩
          case rest =>
            obtain ⟨G, t, to', tn, tc, uo, un, uc, rfl, hB, hC, hbc, hGw⟩ := hcut
            clear hS0 hrmV hrnV hdd
            go_wp2_with fail
            go_loopw [9] (fun kv wx => ∃ kk x y z : Int, (kk = 0 ∨ kk = 1 ∨ kk = 2 ∨ kk = 3) ∧ kv = .int .i64 kk ∧ Hid ((kk = 0 → x = 0 ∧ y = 0 ∧ z = 0) ∧ (kk = 1 → x = (d1 : Int) ∧ y = 0 ∧ z = 0) ∧ (kk = 2 → x = (d1 : Int) ∧ y = (d2 : Int) ∧ z = 0) ∧ (kk = 3 → x = (d1 : Int) ∧ y = (d2 : Int) ∧ z = (d3 : Int))) ∧ B6 G ((x, y, z), t, (to', tn, tc), (uo, un, uc)) wx ∧ RatC wx (.agg #[.bool t, .slice to' tn tc, .slice uo un uc]) (qm' * qn) ∧ Below Wj.heap.size Wj wx) (fun i _ => (3 - intOf i).toNat)
            case atStart => exact ⟨0, 0, 0, 0, .inl rfl, rfl, hid ⟨fun _ => ⟨rfl, rfl, rfl⟩, fun h => by omega, fun h => by omega, fun h => by omega⟩, hB, hC, hbc⟩
            case round =>
              clear hB hC hbc
              obtain ⟨kk, x, y, z, hk3, rfl, Hk, hBk, hCk, hbk⟩ := hrel
              rcases hk3 with rfl | rfl | rfl | rfl
              · obtain ⟨e1, e2, e3⟩ := Hk.out.1 rfl
                subst e1 e2 e3
                clear Hk
                have hdd : Below wr.heap.size wr wr.drew := (Below.refl _ _).drew
                have hbd := below_chain hbk hdd
                have hBd := hBk.next hdd
                have hCd := hCk.next hdd
                have hS0 := And.intro (H6.next hXw.out hbd) (H6.next hX9w.out hbd)
                have hput := hid (hBd.putE0 (d1 : Int))
                have hrat := hid (hBd.rat hCd 0 (.int .i64 (d1 : Int)))
                have hbs := hid (hbd.setCell (p := ⟨G, 0, none⟩) hGw (.int .i64 (d1 : Int)))
                have hfr := hBd.free 0
                have hG0 := hBd.h6.1
                simp only [H3, Nat.zero_add] at hG0
                clear hBk hCk hbk hCd
                go_wp2_with fail
                refine wp_region_D (fun w' => H6 b' (o' + i * 6) (m1' : Int) (m2' : Int) (m3' : Int) s xo xn xc yo yn yc w' ∧ H6 b9 (o9 + j * 6) (n1 : Int) (n2 : Int) (n3 : Int) s' xo' xn' xc' yo' yn' yc' w') [18] (by kernel_rfl) ?_
                refine wpAnyD_take (i := 0) (v := ?_) rfl (by kernel_rfl) (by kernel_rfl) (by kernel_rfl) (by kernel_rfl) (fun _ _ _ h => h) (Or.inl ⟨by rfl, ?_⟩) hS0 ?_
                rotate_left
                · intro w _; first | (go_simp; done) | (go_simp; with_reducible rfl)
                refine wpAnyD_take (i := 1) (v := ?_) rfl (by kernel_rfl) (by kernel_rfl) (by kernel_rfl) (by kernel_rfl) (fun _ _ _ h => h) (Or.inl ⟨by rfl, ?_⟩) hS0 ?_
                rotate_left
                · intro w _; first | (go_simp; done) | (go_simp; with_reducible rfl)
                refine wpAnyD_take (i := 2) (v := ?_) rfl (by kernel_rfl) (by kernel_rfl) (by kernel_rfl) (by kernel_rfl) (fun _ _ _ h => h) (Or.inl ⟨by rfl, ?_⟩) hS0 ?_
                rotate_left
                · intro w _; first | (go_simp; done) | (go_simp; with_reducible rfl)
                refine wpAnyD_take (i := 3) (v := ?_) rfl (by kernel_rfl) (by kernel_rfl) (by kernel_rfl) (by kernel_rfl) (fun _ _ _ h => h) (Or.inl ⟨by rfl, ?_⟩) hS0 ?_
                rotate_left
                · intro w _; first | (go_simp; done) | (go_simp; with_reducible rfl)
                refine wpAnyD_take (i := 4) (v := ?_) rfl (by kernel_rfl) (by kernel_rfl) (by kernel_rfl) (by kernel_rfl) (fun _ _ _ h => h) (Or.inl ⟨by rfl, ?_⟩) hS0 ?_
                rotate_left
                · intro w _; first | (go_simp; done) | (go_simp; with_reducible rfl)
                refine wpAnyD_take (i := 5) (v := ?_) rfl (by kernel_rfl) (by kernel_rfl) (by kernel_rfl) (by kernel_rfl) (fun _ _ _ h => h) (Or.inl ⟨by rfl, ?_⟩) hS0 ?_
                rotate_left
                · intro w _; first | (go_simp; done) | (go_simp; with_reducible rfl)
                refine wpAnyD_take (i := 6) (v := ?_) rfl (by kernel_rfl) (by kernel_rfl) (by kernel_rfl) (by kernel_rfl) (fun _ _ _ h => h) (Or.inl ⟨by rfl, ?_⟩) hS0 ?_
                rotate_left
                · intro w _; first | (go_simp; done) | (go_simp; with_reducible rfl)
                refine wpAnyD_take (i := 7) (v := ?_) rfl (by kernel_rfl) (by kernel_rfl) (by kernel_rfl) (by kernel_rfl) (fun _ _ _ h => h) (Or.inl ⟨by rfl, ?_⟩) hS0 ?_
                rotate_left
                · intro w hw; obtain ⟨⟨⟨s1', s2', s3'⟩, s4', s5', s6'⟩, ⟨t1', t2', t3'⟩, t4', t5', t6'⟩ := hw; first | (go_simp; done) | (go_simp; with_reducible rfl)
                refine wpAnyD_take (i := 8) (v := ?_) rfl (by kernel_rfl) (by kernel_rfl) (by kernel_rfl) (by kernel_rfl) (fun _ _ _ h => h) (Or.inl ⟨by rfl, ?_⟩) hS0 ?_
                rotate_left
                · intro w _; first | (go_simp; done) | (go_simp; with_reducible rfl)
                refine wpAnyD_take (i := 9) (v := ?_) rfl (by kernel_rfl) (by kernel_rfl) (by kernel_rfl) (by kernel_rfl) (fun _ _ _ h => h) (Or.inl ⟨by rfl, ?_⟩) hS0 ?_
                rotate_left
                · intro w _; first | (go_simp; done) | (go_simp; with_reducible rfl)
                refine wpAnyD_take (i := 10) (v := ?_) rfl (by kernel_rfl) (by kernel_rfl) (by kernel_rfl) (by kernel_rfl) (fun _ _ _ h => h) (Or.inl ⟨by rfl, ?_⟩) hS0 ?_
                rotate_left
                · intro w _; first | (go_simp; done) | (go_simp; with_reducible rfl)
                refine wpAnyD_take (i := 11) (v := ?_) rfl (by kernel_rfl) (by kernel_rfl) (by kernel_rfl) (by kernel_rfl) (fun _ _ _ h => h) (Or.inl ⟨by rfl, ?_⟩) hS0 ?_
                rotate_left
                · intro w _; first | (go_simp; done) | (go_simp; with_reducible rfl)
                refine wpAnyD_take (i := 12) (v := ?_) rfl (by kernel_rfl) (by kernel_rfl) (by kernel_rfl) (by kernel_rfl) (fun _ _ _ h => h) (Or.inl ⟨by rfl, ?_⟩) hS0 ?_
                rotate_left
                · intro w _; first | (go_simp; done) | (go_simp; with_reducible rfl)
                refine wpAnyD_take (i := 13) (v := ?_) rfl (by kernel_rfl) (by kernel_rfl) (by kernel_rfl) (by kernel_rfl) (fun _ _ _ h => h) (Or.inl ⟨by rfl, ?_⟩) hS0 ?_
                rotate_left
                · intro w _; first | (go_simp; done) | (go_simp; with_reducible rfl)
                refine wpAnyD_take (i := 14) (v := ?_) rfl (by kernel_rfl) (by kernel_rfl) (by kernel_rfl) (by kernel_rfl) (fun _ _ _ h => h) (Or.inl ⟨by rfl, ?_⟩) hS0 ?_
                rotate_left
                · intro w hw; obtain ⟨⟨⟨s1', s2', s3'⟩, s4', s5', s6'⟩, ⟨t1', t2', t3'⟩, t4', t5', t6'⟩ := hw; first | (go_simp; done) | (go_simp; with_reducible rfl)
                refine wpAnyD_take (i := 15) (v := ?_) rfl (by kernel_rfl) (by kernel_rfl) (by kernel_rfl) (by kernel_rfl) (fun _ _ _ h => h) (Or.inl ⟨by rfl, ?_⟩) hS0 ?_
                rotate_left
                · intro w _; first | (go_simp; done) | (go_simp; with_reducible rfl)
                refine wpAnyD_take (i := 16) (v := ?_) rfl (by kernel_rfl) (by kernel_rfl) (by kernel_rfl) (by kernel_rfl) (fun _ _ _ h => h) (Or.inl ⟨by rfl, ?_⟩) hS0 ?_
                rotate_left
                · intro w _; first | (go_simp; done) | (go_simp; with_reducible rfl)
                refine wpAnyD_take (i := 17) (v := ?_) rfl (by kernel_rfl) (by kernel_rfl) (by kernel_rfl) (by kernel_rfl) (fun _ _ _ h => h) (Or.inl ⟨by rfl, ?_⟩) hS0 ?_
                rotate_left
                · intro w _; first | (go_simp; done) | (go_simp; with_reducible rfl)
                refine wpAnyD_one (i := 18) (by kernel_rfl) rfl (fun KK hKK => ?_)
                have x0 := hG0.1
                have x1 := hG0.2.1
                have x2 := hG0.2.2
                clear hS0 hBd hG0 w1' w2' w3'
                go_simp
                refine hKK _ _ ⟨fun hn => absurd (by simp) hn, ?_⟩; clear hKK KK
                refine wpAnyD_done (by kernel_rfl) ?_ _
                go_simp
                go_wp2_with fail
                go_roundw
                case rel => exact ⟨1, d1, 0, 0, by omega, by go_num, hid ⟨fun h => by omega, fun _ => ⟨rfl, rfl, rfl⟩, fun h => by omega, fun h => by omega⟩, hput.out, hrat.out, hbs.out⟩
                case measure => simp [intOf]
              · obtain ⟨e1, e2, e3⟩ := Hk.out.2.1 rfl
                subst e1 e2 e3
                clear Hk
                have hdd : Below wr.heap.size wr wr.drew := (Below.refl _ _).drew
                have hbd := below_chain hbk hdd
                have hBd := hBk.next hdd
                have hCd := hCk.next hdd
                have hS0 := And.intro (H6.next hXw.out hbd) (H6.next hX9w.out hbd)
                have hput := hid (hBd.putE1 (d2 : Int))
                have hrat := hid (hBd.rat hCd 1 (.int .i64 (d2 : Int)))
                have hbs := hid (hbd.setCell (p := ⟨G, 1, none⟩) hGw (.int .i64 (d2 : Int)))
                have hfr := hBd.free 1
                have hG0 := hBd.h6.1
                simp only [H3, Nat.zero_add] at hG0
                clear hBk hCk hbk hCd
                go_wp2_with fail
                refine wp_region_D (fun w' => H6 b' (o' + i * 6) (m1' : Int) (m2' : Int) (m3' : Int) s xo xn xc yo yn yc w' ∧ H6 b9 (o9 + j * 6) (n1 : Int) (n2 : Int) (n3 : Int) s' xo' xn' xc' yo' yn' yc' w') [18] (by kernel_rfl) ?_
                refine wpAnyD_take (i := 0) (v := ?_) rfl (by kernel_rfl) (by kernel_rfl) (by kernel_rfl) (by kernel_rfl) (fun _ _ _ h => h) (Or.inl ⟨by rfl, ?_⟩) hS0 ?_
                rotate_left
                · intro w _; first | (go_simp; done) | (go_simp; with_reducible rfl)
                refine wpAnyD_take (i := 1) (v := ?_) rfl (by kernel_rfl) (by kernel_rfl) (by kernel_rfl) (by kernel_rfl) (fun _ _ _ h => h) (Or.inl ⟨by rfl, ?_⟩) hS0 ?_
                rotate_left
                · intro w _; first | (go_simp; done) | (go_simp; with_reducible rfl)
                refine wpAnyD_take (i := 2) (v := ?_) rfl (by kernel_rfl) (by kernel_rfl) (by kernel_rfl) (by kernel_rfl) (fun _ _ _ h => h) (Or.inl ⟨by rfl, ?_⟩) hS0 ?_
                rotate_left
                · intro w _; first | (go_simp; done) | (go_simp; with_reducible rfl)
                refine wpAnyD_take (i := 3) (v := ?_) rfl (by kernel_rfl) (by kernel_rfl) (by kernel_rfl) (by kernel_rfl) (fun _ _ _ h => h) (Or.inl ⟨by rfl, ?_⟩) hS0 ?_
                rotate_left
                · intro w _; first | (go_simp; done) | (go_simp; with_reducible rfl)
                refine wpAnyD_take (i := 4) (v := ?_) rfl (by kernel_rfl) (by kernel_rfl) (by kernel_rfl) (by kernel_rfl) (fun _ _ _ h => h) (Or.inl ⟨by rfl, ?_⟩) hS0 ?_
                rotate_left
                · intro w _; first | (go_simp; done) | (go_simp; with_reducible rfl)
                refine wpAnyD_take (i := 5) (v := ?_) rfl (by kernel_rfl) (by kernel_rfl) (by kernel_rfl) (by kernel_rfl) (fun _ _ _ h => h) (Or.inl ⟨by rfl, ?_⟩) hS0 ?_
                rotate_left
                · intro w _; first | (go_simp; done) | (go_simp; with_reducible rfl)
                refine wpAnyD_take (i := 6) (v := ?_) rfl (by kernel_rfl) (by kernel_rfl) (by kernel_rfl) (by kernel_rfl) (fun _ _ _ h => h) (Or.inl ⟨by rfl, ?_⟩) hS0 ?_
                rotate_left
                · intro w _; first | (go_simp; done) | (go_simp; with_reducible rfl)
                refine wpAnyD_take (i := 7) (v := ?_) rfl (by kernel_rfl) (by kernel_rfl) (by kernel_rfl) (by kernel_rfl) (fun _ _ _ h => h) (Or.inl ⟨by rfl, ?_⟩) hS0 ?_
                rotate_left
                · intro w hw; obtain ⟨⟨⟨s1', s2', s3'⟩, s4', s5', s6'⟩, ⟨t1', t2', t3'⟩, t4', t5', t6'⟩ := hw; first | (go_simp; done) | (go_simp; with_reducible rfl)
                refine wpAnyD_take (i := 8) (v := ?_) rfl (by kernel_rfl) (by kernel_rfl) (by kernel_rfl) (by kernel_rfl) (fun _ _ _ h => h) (Or.inl ⟨by rfl, ?_⟩) hS0 ?_
                rotate_left
                · intro w _; first | (go_simp; done) | (go_simp; with_reducible rfl)
                refine wpAnyD_take (i := 9) (v := ?_) rfl (by kernel_rfl) (by kernel_rfl) (by kernel_rfl) (by kernel_rfl) (fun _ _ _ h => h) (Or.inl ⟨by rfl, ?_⟩) hS0 ?_
                rotate_left
                · intro w _; first | (go_simp; done) | (go_simp; with_reducible rfl)
                refine wpAnyD_take (i := 10) (v := ?_) rfl (by kernel_rfl) (by kernel_rfl) (by kernel_rfl) (by kernel_rfl) (fun _ _ _ h => h) (Or.inl ⟨by rfl, ?_⟩) hS0 ?_
                rotate_left
                · intro w _; first | (go_simp; done) | (go_simp; with_reducible rfl)
                refine wpAnyD_take (i := 11) (v := ?_) rfl (by kernel_rfl) (by kernel_rfl) (by kernel_rfl) (by kernel_rfl) (fun _ _ _ h => h) (Or.inl ⟨by rfl, ?_⟩) hS0 ?_
                rotate_left
                · intro w _; first | (go_simp; done) | (go_simp; with_reducible rfl)
                refine wpAnyD_take (i := 12) (v := ?_) rfl (by kernel_rfl) (by kernel_rfl) (by kernel_rfl) (by kernel_rfl) (fun _ _ _ h => h) (Or.inl ⟨by rfl, ?_⟩) hS0 ?_
                rotate_left
                · intro w _; first | (go_simp; done) | (go_simp; with_reducible rfl)
                refine wpAnyD_take (i := 13) (v := ?_) rfl (by kernel_rfl) (by kernel_rfl) (by kernel_rfl) (by kernel_rfl) (fun _ _ _ h => h) (Or.inl ⟨by rfl, ?_⟩) hS0 ?_
                rotate_left
                · intro w _; first | (go_simp; done) | (go_simp; with_reducible rfl)
                refine wpAnyD_take (i := 14) (v := ?_) rfl (by kernel_rfl) (by kernel_rfl) (by kernel_rfl) (by kernel_rfl) (fun _ _ _ h => h) (Or.inl ⟨by rfl, ?_⟩) hS0 ?_
                rotate_left
                · intro w hw; obtain ⟨⟨⟨s1', s2', s3'⟩, s4', s5', s6'⟩, ⟨t1', t2', t3'⟩, t4', t5', t6'⟩ := hw; first | (go_simp; done) | (go_simp; with_reducible rfl)
                refine wpAnyD_take (i := 15) (v := ?_) rfl (by kernel_rfl) (by kernel_rfl) (by kernel_rfl) (by kernel_rfl) (fun _ _ _ h => h) (Or.inl ⟨by rfl, ?_⟩) hS0 ?_
                rotate_left
                · intro w _; first | (go_simp; done) | (go_simp; with_reducible rfl)
                refine wpAnyD_take (i := 16) (v := ?_) rfl (by kernel_rfl) (by kernel_rfl) (by kernel_rfl) (by kernel_rfl) (fun _ _ _ h => h) (Or.inl ⟨by rfl, ?_⟩) hS0 ?_
                rotate_left
                · intro w _; first | (go_simp; done) | (go_simp; with_reducible rfl)
                refine wpAnyD_take (i := 17) (v := ?_) rfl (by kernel_rfl) (by kernel_rfl) (by kernel_rfl) (by kernel_rfl) (fun _ _ _ h => h) (Or.inl ⟨by rfl, ?_⟩) hS0 ?_
                rotate_left
                · intro w _; first | (go_simp; done) | (go_simp; with_reducible rfl)
                refine wpAnyD_one (i := 18) (by kernel_rfl) rfl (fun KK hKK => ?_)
                have x0 := hG0.1
                have x1 := hG0.2.1
                have x2 := hG0.2.2
                clear hS0 hBd hG0 w1' w2' w3'
                go_simp
                refine hKK _ _ ⟨fun hn => absurd (by simp) hn, ?_⟩; clear hKK KK
                refine wpAnyD_done (by kernel_rfl) ?_ _
                go_simp
                go_wp2_with fail
                go_roundw
                case rel => exact ⟨2, d1, d2, 0, by omega, by go_num, hid ⟨fun h => by omega, fun h => by omega, fun _ => ⟨rfl, rfl, rfl⟩, fun h => by omega⟩, hput.out, hrat.out, hbs.out⟩
                case measure => simp [intOf]
              · obtain ⟨e1, e2, e3⟩ := Hk.out.2.2.1 rfl
                subst e1 e2 e3
                clear Hk
                have hdd : Below wr.heap.size wr wr.drew := (Below.refl _ _).drew
                have hbd := below_chain hbk hdd
                have hBd := hBk.next hdd
                have hCd := hCk.next hdd
                have hS0 := And.intro (H6.next hXw.out hbd) (H6.next hX9w.out hbd)
                have hput := hid (hBd.putE2 (d3 : Int))
                have hrat := hid (hBd.rat hCd 2 (.int .i64 (d3 : Int)))
                have hbs := hid (hbd.setCell (p := ⟨G, 2, none⟩) hGw (.int .i64 (d3 : Int)))
                have hfr := hBd.free 2
                have hG0 := hBd.h6.1
                simp only [H3, Nat.zero_add] at hG0
                clear hBk hCk hbk hCd
                go_wp2_with fail
                refine wp_region_D (fun w' => H6 b' (o' + i * 6) (m1' : Int) (m2' : Int) (m3' : Int) s xo xn xc yo yn yc w' ∧ H6 b9 (o9 + j * 6) (n1 : Int) (n2 : Int) (n3 : Int) s' xo' xn' xc' yo' yn' yc' w') [18] (by kernel_rfl) ?_
                refine wpAnyD_take (i := 0) (v := ?_) rfl (by kernel_rfl) (by kernel_rfl) (by kernel_rfl) (by kernel_rfl) (fun _ _ _ h => h) (Or.inl ⟨by rfl, ?_⟩) hS0 ?_
                rotate_left
                · intro w _; first | (go_simp; done) | (go_simp; with_reducible rfl)
                refine wpAnyD_take (i := 1) (v := ?_) rfl (by kernel_rfl) (by kernel_rfl) (by kernel_rfl) (by kernel_rfl) (fun _ _ _ h => h) (Or.inl ⟨by rfl, ?_⟩) hS0 ?_
                rotate_left
                · intro w _; first | (go_simp; done) | (go_simp; with_reducible rfl)
                refine wpAnyD_take (i := 2) (v := ?_) rfl (by kernel_rfl) (by kernel_rfl) (by kernel_rfl) (by kernel_rfl) (fun _ _ _ h => h) (Or.inl ⟨by rfl, ?_⟩) hS0 ?_
                rotate_left
                · intro w _; first | (go_simp; done) | (go_simp; with_reducible rfl)
                refine wpAnyD_take (i := 3) (v := ?_) rfl (by kernel_rfl) (by kernel_rfl) (by kernel_rfl) (by kernel_rfl) (fun _ _ _ h => h) (Or.inl ⟨by rfl, ?_⟩) hS0 ?_
                rotate_left
                · intro w _; first | (go_simp; done) | (go_simp; with_reducible rfl)
                refine wpAnyD_take (i := 4) (v := ?_) rfl (by kernel_rfl) (by kernel_rfl) (by kernel_rfl) (by kernel_rfl) (fun _ _ _ h => h) (Or.inl ⟨by rfl, ?_⟩) hS0 ?_
                rotate_left
                · intro w _; first | (go_simp; done) | (go_simp; with_reducible rfl)
                refine wpAnyD_take (i := 5) (v := ?_) rfl (by kernel_rfl) (by kernel_rfl) (by kernel_rfl) (by kernel_rfl) (fun _ _ _ h => h) (Or.inl ⟨by rfl, ?_⟩) hS0 ?_
                rotate_left
                · intro w _; first | (go_simp; done) | (go_simp; with_reducible rfl)
                refine wpAnyD_take (i := 6) (v := ?_) rfl (by kernel_rfl) (by kernel_rfl) (by kernel_rfl) (by kernel_rfl) (fun _ _ _ h => h) (Or.inl ⟨by rfl, ?_⟩) hS0 ?_
                rotate_left
                · intro w _; first | (go_simp; done) | (go_simp; with_reducible rfl)
                refine wpAnyD_take (i := 7) (v := ?_) rfl (by kernel_rfl) (by kernel_rfl) (by kernel_rfl) (by kernel_rfl) (fun _ _ _ h => h) (Or.inl ⟨by rfl, ?_⟩) hS0 ?_
                rotate_left
                · intro w hw; obtain ⟨⟨⟨s1', s2', s3'⟩, s4', s5', s6'⟩, ⟨t1', t2', t3'⟩, t4', t5', t6'⟩ := hw; first | (go_simp; done) | (go_simp; with_reducible rfl)
                refine wpAnyD_take (i := 8) (v := ?_) rfl (by kernel_rfl) (by kernel_rfl) (by kernel_rfl) (by kernel_rfl) (fun _ _ _ h => h) (Or.inl ⟨by rfl, ?_⟩) hS0 ?_
                rotate_left
                · intro w _; first | (go_simp; done) | (go_simp; with_reducible rfl)
                refine wpAnyD_take (i := 9) (v := ?_) rfl (by kernel_rfl) (by kernel_rfl) (by kernel_rfl) (by kernel_rfl) (fun _ _ _ h => h) (Or.inl ⟨by rfl, ?_⟩) hS0 ?_
                rotate_left
                · intro w _; first | (go_simp; done) | (go_simp; with_reducible rfl)
                refine wpAnyD_take (i := 10) (v := ?_) rfl (by kernel_rfl) (by kernel_rfl) (by kernel_rfl) (by kernel_rfl) (fun _ _ _ h => h) (Or.inl ⟨by rfl, ?_⟩) hS0 ?_
                rotate_left
                · intro w _; first | (go_simp; done) | (go_simp; with_reducible rfl)
                refine wpAnyD_take (i := 11) (v := ?_) rfl (by kernel_rfl) (by kernel_rfl) (by kernel_rfl) (by kernel_rfl) (fun _ _ _ h => h) (Or.inl ⟨by rfl, ?_⟩) hS0 ?_
                rotate_left
                · intro w _; first | (go_simp; done) | (go_simp; with_reducible rfl)
                refine wpAnyD_take (i := 12) (v := ?_) rfl (by kernel_rfl) (by kernel_rfl) (by kernel_rfl) (by kernel_rfl) (fun _ _ _ h => h) (Or.inl ⟨by rfl, ?_⟩) hS0 ?_
                rotate_left
                · intro w _; first | (go_simp; done) | (go_simp; with_reducible rfl)
                refine wpAnyD_take (i := 13) (v := ?_) rfl (by kernel_rfl) (by kernel_rfl) (by kernel_rfl) (by kernel_rfl) (fun _ _ _ h => h) (Or.inl ⟨by rfl, ?_⟩) hS0 ?_
                rotate_left
                · intro w _; first | (go_simp; done) | (go_simp; with_reducible rfl)
                refine wpAnyD_take (i := 14) (v := ?_) rfl (by kernel_rfl) (by kernel_rfl) (by kernel_rfl) (by kernel_rfl) (fun _ _ _ h => h) (Or.inl ⟨by rfl, ?_⟩) hS0 ?_
                rotate_left
                · intro w hw; obtain ⟨⟨⟨s1', s2', s3'⟩, s4', s5', s6'⟩, ⟨t1', t2', t3'⟩, t4', t5', t6'⟩ := hw; first | (go_simp; done) | (go_simp; with_reducible rfl)
                refine wpAnyD_take (i := 15) (v := ?_) rfl (by kernel_rfl) (by kernel_rfl) (by kernel_rfl) (by kernel_rfl) (fun _ _ _ h => h) (Or.inl ⟨by rfl, ?_⟩) hS0 ?_
                rotate_left
                · intro w _; first | (go_simp; done) | (go_simp; with_reducible rfl)
                refine wpAnyD_take (i := 16) (v := ?_) rfl (by kernel_rfl) (by kernel_rfl) (by kernel_rfl) (by kernel_rfl) (fun _ _ _ h => h) (Or.inl ⟨by rfl, ?_⟩) hS0 ?_
                rotate_left
                · intro w _; first | (go_simp; done) | (go_simp; with_reducible rfl)
                refine wpAnyD_take (i := 17) (v := ?_) rfl (by kernel_rfl) (by kernel_rfl) (by kernel_rfl) (by kernel_rfl) (fun _ _ _ h => h) (Or.inl ⟨by rfl, ?_⟩) hS0 ?_
                rotate_left
                · intro w _; first | (go_simp; done) | (go_simp; with_reducible rfl)
                refine wpAnyD_one (i := 18) (by kernel_rfl) rfl (fun KK hKK => ?_)
                have x0 := hG0.1
                have x1 := hG0.2.1
                have x2 := hG0.2.2
                clear hS0 hBd hG0 w1' w2' w3'
                go_simp
                refine hKK _ _ ⟨fun hn => absurd (by simp) hn, ?_⟩; clear hKK KK
                refine wpAnyD_done (by kernel_rfl) ?_ _
                go_simp
                go_wp2_with fail
                go_roundw
                case rel => exact ⟨3, d1, d2, d3, by omega, by go_num, hid ⟨fun h => by omega, fun h => by omega, fun h => by omega, fun _ => ⟨rfl, rfl, rfl⟩⟩, hput.out, hrat.out, hbs.out⟩
                case measure => simp [intOf]
              · obtain ⟨e1, e2, e3⟩ := Hk.out.2.2.2 rfl
                subst e1 e2 e3
                clear Hk
                have hG9 := hBk.h6
                simp only [H6, H3, Nat.zero_add] at hG9
                obtain ⟨⟨x0, x1, x2⟩, x3, x4, x5⟩ := hG9
                have hput := rput_any (mulTo P Q i j) (d1 : Int) (d2 : Int) (d3 : Int) (qm' * qn) oo oc t to' tn tc uo un uc wr (hOw.out.next hbk) hCk K (hfit.out i j) hfmn.out hk
                rw [hlo.out] at hput
                have Hput := hid hput
                have hP7 := hid (fun W (hb : Below wr.heap.size wr W) => Pol.nextC (Pol.nextC hPw.out hbk) hb)
                have hQ7 := hid (fun W (hb : Below wr.heap.size wr W) => Pol.nextC (Pol.nextC hQw.out hbk) hb)
                have hbel6 := hid (below_chain hbel hbk)
                clear hput hCk hBk hbk w1' w2' w3'
                go_wp2_with fail
                refine Hput.out.mono ?_; intro e w7 hout7
                obtain ⟨po, pc, rfl, hO7, hb7⟩ := hout7.congr hstep.out
                have hP8 := hP7.out _ hb7
                have hQ8 := hQ7.out _ hb7
                have hbel8 := below_chain hbel6.out hb7
                obtain ⟨N7, hN7⟩ : ∃ N7, (lst (mulTo P Q i (j + 1))).length = N7 := ⟨_, rfl⟩
                have HN7 := hid hN7
                rw [hN7]
                clear hN7 x0 x1 x2 x3 x4 x5 Hput
                go_wp2_with fail
                go_roundw
                case rel => exact ⟨j + 1, po, pc, N7, by omega, by go_num, rfl, HN7, hO7, hP8, hQ8, hbel8⟩
                case measure => simp [intOf]; omega
        · obtain rfl : j = m := by omega
          have hnx := hid (mulTo_next (Q := Q) Hgm.out)
          rw [Hm.out] at hnx
          have hlo2 : Hid ((lst (mulTo P Q (i + 1) 0)).length = N) := hid (by rw [← hnx.out]; exact hlo.out)
          have hO2 : PolC Wj oo oc (mulTo P Q (i + 1) 0) := by rw [← hnx.out]; exact hO
          clear hO
          go_wp2_with fail
          go_roundw
          case rel => exact ⟨i + 1, oo, oc, N, by omega, by go_num, rfl, hlo2, hO2, hpP, hpQ, hbel⟩
          case measure => simp [intOf]; omega
    · obtain rfl : i = n := by omega
      have hll := hid (lst_congr hend.out)
      clear hpP hpQ
      go_wp2_with fail
      go_ret
      exact ⟨oo, oc, by rw [← hll.out, hlo.out]; rfl, hO.congr hend.out, hbel⟩
end Go.Proofs.YtgohfieleckmgaaGreatDoor

/-
  The contract of the reference's Scale (package weightedref02). No condition but sizes.
-/
namespace Go.Proofs.YtgohfieleckmgaaGreatDoor
open Go.RowKit
set_option linter.unusedSimpArgs false
set_option linter.unusedVariables false

set_option maxHeartbeats 1000000 in
theorem rPScale_any (P : Pl) (q : Rat) (v v2 : Value) (w : World) (h : PolV w v P) (h' : RatV w v2 q) (k l : Nat) (hP : FitP k P) (hq : Fit l q) (hk : 2 * (k + l) + 3 ≤ 4294967296) : Calls Tryz.prog 22 #[v, v2] w (PolOut w (mulP P (constP q))) := by
  obtain ⟨ao, n, cap, _, rfl, _⟩ := id h
  obtain ⟨s, xo, xn, xc, yo, yn, yc, rfl⟩ := h'.shape
  have hb0 : Below w.heap.size w (w.alloc (.cells #[.bool s, .slice xo xn xc, .slice yo yn yc] 25)) := below_alloc _
  have hC : C3 w.heap.size (.bool s) (.slice xo xn xc) (.slice yo yn yc) (w.alloc (.cells #[.bool s, .slice xo xn xc, .slice yo yn yc] 25)) := C3.here w _ rfl
  obtain ⟨c0, c1, c2⟩ := hC
  have hcon := hid (rPConst_any q _ _ (h'.next hb0) l hq (by omega))
  have hmul := hid (fun W (hb : Below (w.alloc (.cells #[.bool s, .slice xo xn xc, .slice yo yn yc] 25)).heap.size (w.alloc (.cells #[.bool s, .slice xo xn xc, .slice yo yn yc] 25)) W) co cc (hc : PolC W co cc (constP q)) =>
    rPMul_any P (constP q) _ _ W ((h.next hb0).next hb) (hc.toV (fitP_const hq) (by omega)) k l 1 hP (fitP_const hq) (.inr (lst_const_len q)) (by omega))
  clear h h'
  go_enter Tryz.func22, Tryz.ntmps22
  go_wp2_with fail
  refine hcon.out.mono ?_; rintro e w1 ⟨co, cc, rfl, hc, hb1⟩
  have hm := hid (hmul.out _ hb1 co cc hc)
  have hbel := below_chain hb0 hb1
  go_wp2_with fail
  refine hm.out.mono ?_; rintro e w2 ⟨ro, rc, rfl, hP2, hb2⟩
  go_wp2_with fail
  go_ret
  exact PolOut.old ⟨ro, rc, rfl, hP2, hb2⟩ hbel

end Go.Proofs.YtgohfieleckmgaaGreatDoor

/-
  The contracts of the reference's Less (package weightedref01), Lowest and Same (package weightedref02). No condition but sizes.
-/
namespace Go.Proofs.YtgohfieleckmgaaGreatDoor
open Go.RowKit
set_option linter.unusedSimpArgs false
set_option linter.unusedVariables false

set_option maxHeartbeats 1000000 in
theorem rLess_any (q r : Rat) (v v2 : Value) (w : World) (h : RatV w v q) (h' : RatV w v2 r) (k : Nat) (hq : Fit k q) (hr' : Fit k r) (hk : k ≤ 4294967296) :
    Calls Tryz.prog 31 #[v, v2] w fun e w' => e = .returned (.bool (decide (rsg (q - r) < 0))) ∧ Below w.heap.size w w' := by
  obtain ⟨s, ao, n, cap, bo, m, cap', rfl⟩ := h.shape
  obtain ⟨t, co, n2, cap2, eo, m2, cap3, rfl⟩ := h'.shape
  have hB := (Bk.start (Below.refl w.heap.size w) rfl (.bool s) (.slice ao n cap) (.slice bo m cap') 25).new (.cells #[.bool t, .slice co n2 cap2, .slice eo m2 cap3] 25)
  obtain ⟨c0, c1, c2⟩ := hB.c3
  have hb0 := hB.bel
  have hcmp := hid (rCompare_any q r _ _ _ (h.next hb0) (h'.next hb0) k hq hr' hk)
  obtain ⟨g, hg⟩ : ∃ g, rsg (q - r) = g := ⟨_, rfl⟩
  rw [hg] at hcmp ⊢
  clear hg h h' hB
  go_enter Tryz.func31, Tryz.ntmps31
  go_wp2_with fail
  refine hcmp.out.mono ?_; rintro e w1 ⟨rfl, hb1⟩
  have hbel := below_chain hb0 hb1
  go_wp2_with fail
  go_ret
  exact ⟨rfl, hbel⟩

/-! ### Lowest -/
set_option maxRecDepth 100000 in
theorem key3 : Tryz.prog.keyTypeAt 2 57 = true := by kernel_rfl
/-- '==' of exponents. -/
theorem eq3_run (d e : Ex) (hd : deg d ≤ 5) (he : deg e ≤ 5) (w : World) : (Op.equal 57 (.agg #[.int .i64 (exI d).1, .int .i64 (exI d).2.1, .int .i64 (exI d).2.2]) (.agg #[.int .i64 (exI e).1, .int .i64 (exI e).2.1, .int .i64 (exI e).2.2])).run Tryz.prog w = .ok (decide (d = e)) w := by
  obtain ⟨kl, hk⟩ := keyE d hd
  obtain ⟨kl', hk'⟩ := keyE e he
  obtain ⟨r, hr, hiff⟩ := run_equal_deep (P := Tryz.prog) w (m := 2) (by omega) key3 (by rw [Tryz.underlying57]) hk hk'
  have : r = decide (d = e) := by
    rw [Bool.eq_iff_iff, hiff, decide_eq_true_iff]
    constructor
    · intro h; subst h; exact keyE_same hk hk'
    · intro h; subst h; rw [hk] at hk'; exact Option.some.inj hk'
  rw [← this]
  exact hr
/-- .. as the walk asks it. -/
theorem eqi3_run (d e : Ex) (hd : deg d ≤ 5) (he : deg e ≤ 5) (w : World) : (Op.equalIn 10000 57 (.agg #[.int .i64 (d.1 : Int), .int .i64 (d.2.1 : Int), .int .i64 (d.2.2 : Int)]) (.agg #[.int .i64 (e.1 : Int), .int .i64 (e.2.1 : Int), .int .i64 (e.2.2 : Int)])).run Tryz.prog w = .ok (decide (d = e)) w := eq3_run d e hd he w

/-- The lowest monomial stands last. -/
theorem low_last {P : Pl} {n : Nat} {e : Ex} {q : Rat} (hn : (lst P).length = n + 1) (h : (lst P)[n]? = some (e, q)) : P (0, 0, 0) = if e = (0, 0, 0) then q else 0 := by
  by_cases he : e = (0, 0, 0)
  · rw [if_pos he]
    subst he
    exact ((lst_at (List.mem_of_getElem? h)).2.2).symm
  · rw [if_neg he]
    by_cases k : P (0, 0, 0) = 0
    · exact k
    · exfalso
      have hm : ((0, 0, 0), P (0, 0, 0)) ∈ lst P := List.mem_map.2 ⟨(0, 0, 0), mem_supp.2 ⟨by decide, k⟩, rfl⟩
      obtain ⟨i, hi⟩ := List.getElem?_of_mem hm
      have hil : i < n + 1 := by rw [← hn]; exact (List.getElem?_eq_some_iff.1 hi).1
      have hne : i ≠ n := fun e2 => by
        subst e2
        rw [h] at hi
        injection hi with hi
        exact he (congrArg Prod.fst hi)
      have hp := List.pairwise_iff_getElem.1 (lst_sorted P) i n (by omega) (by omega) (by omega)
      have e1 := (List.getElem?_eq_some_iff.1 hi).2
      have e2 := (List.getElem?_eq_some_iff.1 h).2
      rw [e1, e2] at hp
      unfold gtE at hp
      simp at hp
theorem low_none {P : Pl} (hn : (lst P).length = 0) : P (0, 0, 0) = 0 := low_no fun i e q h => by
  have := (List.getElem?_eq_some_iff.1 h).1
  omega

set_option maxRecDepth 100000 in
set_option maxHeartbeats 2000000 in
theorem rLowest_any (P : Pl) (v : Value) (w : World) (h : PolV w v P) : Calls Tryz.prog 25 #[v] w (RatOut w (P (0, 0, 0))) := by
  obtain ⟨_, _, _, _, rfl, _⟩ := id h
  have hr := Res.start (Below.refl w.heap.size w) false none 0 0 none 0 0 25
  have hval := hid (rPTake_any P _ _ (h.next hr.bel))
  obtain ⟨n, hn⟩ : ∃ n, (lst P).length = n := ⟨_, rfl⟩
  have hnb : n ≤ 56 := by rw [← hn]; exact len_lst P
  have Hn := hid hn
  clear h hn
  go_enter Tryz.func25, Tryz.ntmps25
  go_wp2_with fail
  refine hval.out.mono ?_; rintro e w1 ⟨ao, cap, rfl, hP1, hb1⟩
  rw [Hn.out]
  have hP1' : Pol RatC w1 ao n cap ((lst P).map toM) := by have := hP1; unfold PolC at this; rw [Hn.out] at this; exact this
  have hr1 := hr.next hb1
  clear hP1 hr
  rcases n with _ | n
  · have hq := hid (low_none Hn.out)
    have hr3 := hid hr1
    obtain ⟨d0, d1, d2, g0, g1, g2, _, _, _, _⟩ := hr1
    clear hP1'
    go_wp2_with fail
    refine bodyPost_ret (v := .agg #[.bool false, .slice none 0 0, .slice none 0 0]) (by simp [results, Tryz.results25, go_sem, d0, d1, d2]) rfl ?_
    rw [hq.out]
    exact hr3.out.rc (ratC_zero _)
  · obtain ⟨b, o, m1, m2, m3, qm, s, xo, xn, xc, yo, yn, yc, hgm, rfl, hX, hrm⟩ := hP1'.atM (Nat.lt_succ_self n)
    have hlow := hid (low_last Hn.out hgm)
    have hmem := lst_at (List.mem_of_getElem? hgm)
    obtain ⟨⟨x0, x1, x2⟩, x3, x4, x5⟩ := hX
    have heq : ∀ W : World, (Op.equalIn 10000 57 (.agg #[.int .i64 (m1 : Int), .int .i64 (m2 : Int), .int .i64 (m3 : Int)]) (.agg #[.int .i64 0, .int .i64 0, .int .i64 0])).run Tryz.prog W = .ok (decide ((m1, m2, m3) = ((0, 0, 0) : Ex))) W := fun W => eqi3_run (m1, m2, m3) (0, 0, 0) hmem.1 (by decide) W
    have hr3 := hid hr1
    have hrm3 := hid hrm
    obtain ⟨d0, d1, d2, g0, g1, g2, _, _, _, _⟩ := hr1
    have w1' : IntKind.i64.wrap (((n + 1 : Nat) : Int) - 1) = (n : Int) := by rw [IntKind.wrap_i64]; omega
    clear hP1' hgm hmem
    by_cases hd : (m1, m2, m3) = ((0, 0, 0) : Ex)
    · rw [decide_eq_true hd] at heq
      rw [if_pos hd] at hlow
      clear hd
      clear hrm
      go_wp2_with fail
      refine bodyPost_ret (v := .agg #[.bool s, .slice xo xn xc, .slice yo yn yc]) (by simp [results, Tryz.results25, go_sem, d0, d1, d2]) rfl ?_
      rw [hlow.out]
      exact hr3.out.rc hrm3.out
    · rw [decide_eq_false hd] at heq
      rw [if_neg hd] at hlow
      clear hd hrm
      go_wp2_with fail
      refine bodyPost_ret (v := .agg #[.bool false, .slice none 0 0, .slice none 0 0]) (by simp [results, Tryz.results25, go_sem, d0, d1, d2]) rfl ?_
      rw [hlow.out]
      exact hr3.out.rc (ratC_zero _)

/-! ### Same -/
set_option maxRecDepth 10000 in
set_option maxHeartbeats 4000000 in
theorem rPSame_any (P : Pl) (n : Nat) (hn : (lst P).length = n) (ao : Option Addr) (cap : Nat) (bo : Option Addr) (cap' : Nat) (w : World) (h : Pol RatC w ao n cap ((lst P).map toM)) (h' : Pol RatC w bo n cap' ((lst P).map toM)) :
    Calls Tryz.prog 16 #[.slice ao n cap, .slice bo n cap'] w fun e w' => e = .returned (.bool true) ∧ Below w.heap.size w w' := by
  have hb := h.bound
  have Hn := hid hn
  clear hn
  go_enter Tryz.func16, Tryz.ntmps16
  go_wp2_with fail
  go_loopw [5] (fun iv wr => ∃ i : Nat, i ≤ n ∧ iv = .int .i64 i ∧ Below w.heap.size w wr) (fun i _ => n - (intOf i).toNat)
  case atStart => exact ⟨0, by omega, rfl, Below.refl _ _⟩
  case round =>
    obtain ⟨i, hi, rfl, hbel⟩ := hrel
    by_cases hlt : i < n
    · obtain ⟨b, o, e1, e2, e3, q, s, xo, xn, xc, yo, yn, yc, hm, rfl, hx, hr⟩ := (Pol.nextC h hbel).atM hlt
      obtain ⟨b9, o9, d1, d2, d3, q9, s', xo', xn', xc', yo', yn', yc', hm9, rfl, hx9, hr9⟩ := (Pol.nextC h' hbel).atM hlt
      rw [hm] at hm9
      injection hm9 with hm9
      injection hm9 with h1 h2
      simp only [Prod.mk.injEq] at h1
      obtain ⟨k1, k2, k3⟩ := h1
      subst k1 k2 k3 h2
      have hmem := lst_at (List.mem_of_getElem? hm)
      have heq : ∀ W : World, (Op.equalIn 10000 57 (.agg #[.int .i64 (e1 : Int), .int .i64 (e2 : Int), .int .i64 (e3 : Int)]) (.agg #[.int .i64 (e1 : Int), .int .i64 (e2 : Int), .int .i64 (e3 : Int)])).run Tryz.prog W = .ok true W := fun W => by
        have := eqi3_run (e1, e2, e3) (e1, e2, e3) hmem.1 hmem.1 W
        rwa [decide_eq_true rfl] at this
      have hdd : Below wr.heap.size wr wr.drew := (Below.refl _ _).drew
      have hS0 := And.intro (H6.next hx hdd) (H6.next hx9 hdd)
      have hr1 := hr.next hdd
      have hr2 := hr9.next hdd
      have hbel1 := below_chain hbel hdd
      have i0 : (0 : Int) ≤ (i : Int) := by omega
      have i1 : (i : Int) < (n : Int) := by omega
      clear hx hx9 hr hr9 hm hmem
      go_wp2_with fail
      refine wp_region_D (fun w' => H6 b (o + i * 6) (e1 : Int) (e2 : Int) (e3 : Int) s xo xn xc yo yn yc w' ∧ H6 b9 (o9 + i * 6) (e1 : Int) (e2 : Int) (e3 : Int) s' xo' xn' xc' yo' yn' yc' w') [] (by kernel_rfl) ?_
      refine wpAnyD_take (i := 0) (v := ?_) rfl (by kernel_rfl) (by kernel_rfl) (by kernel_rfl) (by kernel_rfl) (fun _ _ _ h => h) (Or.inl ⟨by rfl, ?_⟩) hS0 ?_
      rotate_left
      · intro w _; first | (go_simp; done) | (go_simp; with_reducible rfl)
      refine wpAnyD_take (i := 1) (v := ?_) rfl (by kernel_rfl) (by kernel_rfl) (by kernel_rfl) (by kernel_rfl) (fun _ _ _ h => h) (Or.inl ⟨by rfl, ?_⟩) hS0 ?_
      rotate_left
      · intro w _; first | (go_simp; done) | (go_simp; with_reducible rfl)
      refine wpAnyD_take (i := 2) (v := ?_) rfl (by kernel_rfl) (by kernel_rfl) (by kernel_rfl) (by kernel_rfl) (fun _ _ _ h => h) (Or.inl ⟨by rfl, ?_⟩) hS0 ?_
      rotate_left
      · intro w _; first | (go_simp; done) | (go_simp; with_reducible rfl)
      refine wpAnyD_take (i := 3) (v := ?_) rfl (by kernel_rfl) (by kernel_rfl) (by kernel_rfl) (by kernel_rfl) (fun _ _ _ h => h) (Or.inl ⟨by rfl, ?_⟩) hS0 ?_
      rotate_left
      · intro w _; first | (go_simp; done) | (go_simp; with_reducible rfl)
      refine wpAnyD_take (i := 4) (v := ?_) rfl (by kernel_rfl) (by kernel_rfl) (by kernel_rfl) (by kernel_rfl) (fun _ _ _ h => h) (Or.inl ⟨by rfl, ?_⟩) hS0 ?_
      rotate_left
      · intro w hw; obtain ⟨⟨⟨s1', s2', s3'⟩, s4', s5', s6'⟩, ⟨t1', t2', t3'⟩, t4', t5', t6'⟩ := hw; first | (go_simp; done) | (go_simp; with_reducible rfl)
      refine wpAnyD_take (i := 5) (v := ?_) rfl (by kernel_rfl) (by kernel_rfl) (by kernel_rfl) (by kernel_rfl) (fun _ _ _ h => h) (Or.inl ⟨by rfl, ?_⟩) hS0 ?_
      rotate_left
      · intro w _; first | (go_simp; done) | (go_simp; with_reducible rfl)
      refine wpAnyD_take (i := 6) (v := ?_) rfl (by kernel_rfl) (by kernel_rfl) (by kernel_rfl) (by kernel_rfl) (fun _ _ _ h => h) (Or.inl ⟨by rfl, ?_⟩) hS0 ?_
      rotate_left
      · intro w _; first | (go_simp; done) | (go_simp; with_reducible rfl)
      refine wpAnyD_take (i := 7) (v := ?_) rfl (by kernel_rfl) (by kernel_rfl) (by kernel_rfl) (by kernel_rfl) (fun _ _ _ h => h) (Or.inl ⟨by rfl, ?_⟩) hS0 ?_
      rotate_left
      · intro w _; first | (go_simp; done) | (go_simp; with_reducible rfl)
      refine wpAnyD_take (i := 8) (v := ?_) rfl (by kernel_rfl) (by kernel_rfl) (by kernel_rfl) (by kernel_rfl) (fun _ _ _ h => h) (Or.inl ⟨by rfl, ?_⟩) hS0 ?_
      rotate_left
      · intro w _; first | (go_simp; done) | (go_simp; with_reducible rfl)
      refine wpAnyD_take (i := 9) (v := ?_) rfl (by kernel_rfl) (by kernel_rfl) (by kernel_rfl) (by kernel_rfl) (fun _ _ _ h => h) (Or.inl ⟨by rfl, ?_⟩) hS0 ?_
      rotate_left
      · intro w hw; obtain ⟨⟨⟨s1', s2', s3'⟩, s4', s5', s6'⟩, ⟨t1', t2', t3'⟩, t4', t5', t6'⟩ := hw; first | (go_simp; done) | (go_simp; with_reducible rfl)
      refine wpAnyD_take (i := 10) (v := ?_) rfl (by kernel_rfl) (by kernel_rfl) (by kernel_rfl) (by kernel_rfl) (fun _ _ _ h => h) (Or.inl ⟨by rfl, ?_⟩) hS0 ?_
      rotate_left
      · intro w _; first | (go_simp; done) | (go_simp; with_reducible rfl)
      refine wpAnyD_take (i := 11) (v := ?_) rfl (by kernel_rfl) (by kernel_rfl) (by kernel_rfl) (by kernel_rfl) (fun _ _ _ h => h) (Or.inl ⟨by rfl, ?_⟩) hS0 ?_
      rotate_left
      · intro w _; first | (go_simp; done) | (go_simp; with_reducible rfl)
      refine wpAnyD_take (i := 12) (v := ?_) rfl (by kernel_rfl) (by kernel_rfl) (by kernel_rfl) (by kernel_rfl) (fun _ _ _ h => h) (Or.inl ⟨by kernel_rfl, ?_⟩) hS0 ?_
      rotate_left
      · intro w _; first | (go_simp; done) | (go_simp; with_reducible rfl)
      refine wpAnyD_take (i := 13) (v := ?_) rfl (by kernel_rfl) (by kernel_rfl) (by kernel_rfl) (by kernel_rfl) (fun _ _ _ h => h) (Or.inl ⟨by kernel_rfl, ?_⟩) hS0 ?_
      rotate_left
      · intro w _; first | (go_simp; done) | (go_simp; with_reducible rfl)
      refine wpAnyD_take (i := 14) (v := ?_) rfl (by kernel_rfl) (by kernel_rfl) (by kernel_rfl) (by kernel_rfl) (fun _ _ _ h => h) (Or.inl ⟨by kernel_rfl, ?_⟩) hS0 ?_
      rotate_left
      · intro w _; first | (go_simp; done) | (go_simp; with_reducible rfl)
      refine wpAnyD_take (i := 15) (v := ?_) rfl (by kernel_rfl) (by kernel_rfl) (by kernel_rfl) (by kernel_rfl) (fun _ _ _ h => h) (Or.inl ⟨by kernel_rfl, ?_⟩) hS0 ?_
      rotate_left
      · intro w _; first | (go_simp; done) | (go_simp; with_reducible rfl)
      refine wpAnyD_take (i := 16) (v := ?_) rfl (by kernel_rfl) (by kernel_rfl) (by kernel_rfl) (by kernel_rfl) (fun _ _ _ h => h) (Or.inl ⟨by kernel_rfl, ?_⟩) hS0 ?_
      rotate_left
      · intro w hw; obtain ⟨⟨⟨s1', s2', s3'⟩, s4', s5', s6'⟩, ⟨t1', t2', t3'⟩, t4', t5', t6'⟩ := hw; first | (go_simp; done) | (go_simp; with_reducible rfl)
      refine wpAnyD_take (i := 17) (v := ?_) rfl (by kernel_rfl) (by kernel_rfl) (by kernel_rfl) (by kernel_rfl) (fun _ _ _ h => h) (Or.inl ⟨by kernel_rfl, ?_⟩) hS0 ?_
      rotate_left
      · intro w _; first | (go_simp; done) | (go_simp; with_reducible rfl)
      refine wpAnyD_take (i := 18) (v := ?_) rfl (by kernel_rfl) (by kernel_rfl) (by kernel_rfl) (by kernel_rfl) (fun _ _ _ h => h) (Or.inl ⟨by kernel_rfl, ?_⟩) hS0 ?_
      rotate_left
      · intro w _; first | (go_simp; done) | (go_simp; with_reducible rfl)
      refine wpAnyD_take (i := 19) (v := ?_) rfl (by kernel_rfl) (by kernel_rfl) (by kernel_rfl) (by kernel_rfl) (fun _ _ _ h => h) (Or.inl ⟨by kernel_rfl, ?_⟩) hS0 ?_
      rotate_left
      · intro w _; first | (go_simp; done) | (go_simp; with_reducible rfl)
      refine wpAnyD_take (i := 20) (v := ?_) rfl (by kernel_rfl) (by kernel_rfl) (by kernel_rfl) (by kernel_rfl) (fun _ _ _ h => h) (Or.inl ⟨by kernel_rfl, ?_⟩) hS0 ?_
      rotate_left
      · intro w _; first | (go_simp; done) | (go_simp; with_reducible rfl)
      refine wpAnyD_take (i := 21) (v := ?_) rfl (by kernel_rfl) (by kernel_rfl) (by kernel_rfl) (by kernel_rfl) (fun _ _ _ h => h) (Or.inl ⟨by kernel_rfl, ?_⟩) hS0 ?_
      rotate_left
      · intro w hw; obtain ⟨⟨⟨s1', s2', s3'⟩, s4', s5', s6'⟩, ⟨t1', t2', t3'⟩, t4', t5', t6'⟩ := hw; first | (go_simp; done) | (go_simp; with_reducible rfl)
      refine wpAnyD_one (i := 22) (by kernel_rfl) rfl (fun KK hKK => ?_)
      go_simp
      go_at_call 23
      refine (rSameC q q _ _ _ hr1 hr2).mono ?_; rintro e w4 ⟨rfl, hb4⟩; rw [show decide (q = q) = true from decide_eq_true rfl]
      have hS4 := And.intro (H6.next hS0.1 hb4) (H6.next hS0.2 hb4)
      refine hKK _ _ ⟨fun _ => hS4, ?_⟩; clear hKK KK
      refine wpAnyD_take (i := 23) (v := ?_) rfl (by kernel_rfl) (by kernel_rfl) (by kernel_rfl) (by kernel_rfl) (fun _ _ _ h => h) (Or.inl ⟨by kernel_rfl, ?_⟩) hS4 ?_
      rotate_left
      · intro w _; first | (go_simp; done) | (go_simp; with_reducible rfl)
      refine wpAnyD_take (i := 24) (v := ?_) rfl (by kernel_rfl) (by kernel_rfl) (by kernel_rfl) (by kernel_rfl) (fun _ _ _ h => h) (Or.inl ⟨by rfl, ?_⟩) hS4 ?_
      rotate_left
      · intro w _; first | (go_simp; done) | (go_simp; with_reducible rfl)
      refine wpAnyD_done (by kernel_rfl) ?_ _
      go_simp
      have hbel4 := below_chain hbel1 hb4
      go_wp2_with fail
      go_roundw
      case rel => exact ⟨i + 1, by omega, by go_num, hbel4⟩
      case measure => simp [intOf]; omega
    · obtain rfl : i = n := by omega
      go_wp2_with fail
      go_ret
      exact ⟨rfl, hbel⟩
theorem rPSameC (P : Pl) (ao : Option Addr) (cap : Nat) (bo : Option Addr) (cap' : Nat) (w : World) (h : PolC w ao cap P) (h' : PolC w bo cap' P) :
    Calls Tryz.prog 16 #[.slice ao (lst P).length cap, .slice bo (lst P).length cap'] w fun e w' => e = .returned (.bool true) ∧ Below w.heap.size w w' := rPSame_any P _ rfl ao cap bo cap' w h h'
end Go.Proofs.YtgohfieleckmgaaGreatDoor
