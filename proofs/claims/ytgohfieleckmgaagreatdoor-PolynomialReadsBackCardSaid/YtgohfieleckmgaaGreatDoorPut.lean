/-
  The contract of the reference's put (package weightedref02). No condition but sizes.
-/
import Derived.Test.YtgohfieleckmgaaGreatDoorPrt
import Derived.Test.YtgohfieleckmgaaGreatDoorPlyS
import Derived.Test.YtgohfieleckmgaaGreatDoorPoh
namespace Go.Proofs.YtgohfieleckmgaaGreatDoor
open Go.RowKit
set_option linter.unusedSimpArgs false
set_option linter.unusedVariables false

theorem elem_mon (w : World) : (sizeOf (Tryz.prog.elem 22)).run Tryz.prog w = .ok 6 w := by kernel_rfl
theorem und_mon : Tryz.prog.underlying 22 = some (.slice (Tryz.prog.elem 22)) := by kernel_rfl
theorem Addr.add_zero' (a : Addr) : a.add 0 = a := by cases a; rfl
theorem cut_to {R : World → Value → Rat → Prop} {w : World} {ao : Option Addr} {n cap : Nat} {l : List Mr} (h : Pol R w ao n cap l) {k : Nat} (hk : k ≤ n) :
    ∃ a c, (∀ W, (Instr.sliceAt 22 (.slice ao n cap) none (some (.int .i64 (k : Int))) none).run Tryz.prog W = .ok (.slice a k c) W) ∧ Pol R w a k c (l.take k) := by
  refine ⟨ao, cap, fun W => ?_, h.take hk⟩
  have hc := h.2.1
  rw [run_sliceAt_slice (h := und_mon), run_slice_h (ht := und_mon) (h0 := by omega) (h2 := by omega), elem_mon]
  show Result.ok (sliced ao 0 (Int.toNat (k : Int)) cap 6) W = _
  unfold sliced
  have : ao.map (fun a => a.add (0 * 6)) = ao := by cases ao with
    | none => rfl
    | some a => exact congrArg some (Addr.add_zero' a)
  simp only [this, ite_self, Int.toNat_natCast, Nat.sub_zero]
theorem cut_from {R : World → Value → Rat → Prop} {w : World} {ao : Option Addr} {n cap : Nat} {l : List Mr} (h : Pol R w ao n cap l) {k : Nat} (hk : k ≤ n) :
    ∃ a c, (∀ W, (Instr.sliceAt 22 (.slice ao n cap) (some (.int .i64 (k : Int))) none none).run Tryz.prog W = .ok (.slice a (n - k) c) W) ∧ Pol R w a (n - k) c (l.drop k) := by
  have hc := h.2.1
  refine ⟨if cap = k then ao else ao.map (fun a => a.add (k * 6)), cap - k, fun W => ?_, ?_⟩
  · rw [run_sliceAt_slice (h := und_mon), run_slice_l (ht := und_mon) (h0 := by omega) (h1 := by omega), elem_mon]
    show Result.ok (sliced ao (Int.toNat (k : Int)) n cap 6) W = _
    unfold sliced
    rw [Int.toNat_natCast]
  · split
    · rename_i e
      have hn : n = k := by omega
      subst hn
      rw [e, Nat.sub_self, List.drop_eq_nil_of_le (by rw [h.1]; exact Nat.le_refl _)]
      cases ao with
      | none => exact Pol.nil _ _
      | some a => exact Pol.empty a 0 (by unfold maxLen; omega)
    · cases ao with
      | none =>
        have h0 := h.2.2.2.1 rfl
        omega
      | some a =>
        by_cases hn : n = k
        · subst hn
          rw [Nat.sub_self, List.drop_eq_nil_of_le (by rw [h.1]; exact Nat.le_refl _)]
          exact Pol.empty _ _ (by have := h.2.2.1; omega)
        · obtain ⟨m, _, b, o, e, _⟩ := h.get (show k < n by omega)
          cases e
          show Pol R w (some ((⟨b, o, none⟩ : Addr).add (k * 6))) _ _ _
          rw [Addr.add_lit]
          exact h.drop hk

theorem ord_pos {d e : Xp} : decide (0 < ordI e d) = gtI d e := by
  have h1 := @ordI_neg e d
  cases hg : gtI d e with
  | true =>
    have hne : e ≠ d := fun k => by subst k; rw [gtI_irrefl] at hg; cases hg
    have hn : gtI e d = false := by
      cases h : gtI e d with
      | false => rfl
      | true => have := gtI_trans h hg; rw [gtI_irrefl] at this; cases this
    unfold ordI
    rw [if_neg hne, hn]; rfl
  | false =>
    unfold ordI
    split
    · rfl
    · rename_i hne
      rcases gtI_total hne with h | h
      · rw [h]; rfl
      · rw [h] at hg; cases hg
theorem ord_ne {d e : Xp} : (ordI e d != 0) = decide (d ≠ e) := by
  unfold ordI
  split
  · rename_i h; subst h; simp
  · rename_i h
    have : d ≠ e := fun k => h k.symm
    split <;> simp [this]

/-- A monomial in a block of its own, known whole. -/
def B6 (G : Nat) (m : Mo) (w : World) : Prop := ∃ T, w.heap[G]? = some (.cells (encM m).toArray T (0, 0))
section
variable {G : Nat} {m : Mo} {w w' : World}
theorem B6.lt (h : B6 G m w) : G < w.heap.size := by
  obtain ⟨T, hT⟩ := h
  exact (Array.getElem?_eq_some_iff.1 hT).1
theorem B6.next (h : B6 G m w) (hb : Below w.heap.size w w') : B6 G m w' := by
  have hl := h.lt
  obtain ⟨T, hT⟩ := h
  exact ⟨T, by rw [hb.block G hl]; exact hT⟩
theorem B6.under {B : Nat} (h : B6 G m w) (hb : Below B w w') (hB : G < B) : B6 G m w' := by
  obtain ⟨T, hT⟩ := h
  exact ⟨T, by rw [hb.block G hB]; exact hT⟩
theorem B6.h6 {x y z : Int} {s : Bool} {xo : Option Addr} {xn xc : Nat} {yo : Option Addr} {yn yc : Nat} (h : B6 G ((x, y, z), s, (xo, xn, xc), (yo, yn, yc)) w) : H6 G 0 x y z s xo xn xc yo yn yc w := by
  obtain ⟨T, hT⟩ := h
  have := fun i => cell_of_row w G i _ T (0, 0) hT
  exact ⟨⟨by rw [Cl, this]; rfl, by rw [Cl, this]; rfl, by rw [Cl, this]; rfl⟩, by rw [Cl, this]; rfl, by rw [Cl, this]; rfl, by rw [Cl, this]; rfl⟩
theorem B6.free (h : B6 G m w) (i : Nat) : w.frozen? ⟨G, i, none⟩ = false := by
  obtain ⟨T, hT⟩ := h
  exact frozen_of_row w G i _ T hT
theorem B6.fresh (w : World) (m : Mo) (T : TypeId) : B6 w.heap.size m (w.alloc (.cells (encM m).toArray T)) := ⟨T, heap_alloc_new w _⟩
theorem B6.own (h : B6 G m w) : ∃ T, Own IsMon w G T 1 (.slice (some ⟨G, 0, none⟩) 6 6) 6 (encM m) := by
  obtain ⟨T, hT⟩ := h
  refine ⟨T, ⟨rfl, .inr ⟨G, 6, (encM m).toArray, rfl, Nat.le_refl _, hT, Nat.le_refl _, by simp [maxLen], rfl, rfl⟩⟩, ?_⟩
  intro g hg cur t fr hh c hc
  simp only [Value.ownBlock, Option.some.injEq] at hg
  subst hg
  rw [hT] at hh
  injection hh with hh
  injection hh with e1 _ _
  subst e1
  exact isMon_enc m c (by simpa using hc)
theorem grown_put3 (w : World) (G : Nat) (x y z : Value) : w.grownBy (((w.setCell ⟨G, 3, none⟩ x).setCell ⟨G, 4, none⟩ y).setCell ⟨G, 5, none⟩ z) (some G) :=
  ⟨rfl, rfl, rfl, by simp, fun k hk hne => by
    have hk' : k ≠ G := fun e => hne (by rw [e])
    rw [Below.heap_setCell _ _ _ _ hk', Below.heap_setCell _ _ _ _ hk', Below.heap_setCell _ _ _ _ hk']⟩
theorem B6.put {e : Xp} {c c' : Bool × (Option Addr × Nat × Nat) × (Option Addr × Nat × Nat)} (h : B6 G (e, c) w) :
    B6 G (e, c') (((w.setCell ⟨G, 3, none⟩ (.bool c'.1)).setCell ⟨G, 4, none⟩ (.slice c'.2.1.1 c'.2.1.2.1 c'.2.1.2.2)).setCell ⟨G, 5, none⟩ (.slice c'.2.2.1 c'.2.2.2.1 c'.2.2.2.2)) := by
  obtain ⟨T, hT⟩ := h
  have h1 := heap_setCell_same w G 3 _ T (.bool c'.1) hT
  have h2 := heap_setCell_same _ G 4 _ T (.slice c'.2.1.1 c'.2.1.2.1 c'.2.1.2.2) h1
  have h3 := heap_setCell_same _ G 5 _ T (.slice c'.2.2.1 c'.2.2.2.1 c'.2.2.2.2) h2
  exact ⟨T, h3⟩
end

set_option maxRecDepth 10000 in
set_option maxHeartbeats 8000000 in
theorem rput_any (P : Pl) (x y z : Int) (q : Rat) (ao : Option Addr) (cap : Nat) (s : Bool) (xo : Option Addr) (xn xc : Nat) (yo : Option Addr) (yn yc : Nat) (w : World) (h : PolC w ao cap P) (hr : RatC w (.agg #[.bool s, .slice xo xn xc, .slice yo yn yc]) q) (k : Nat) (hP : FitP k P) (hq : Fit k q) (hk : k ≤ 4294967296) :
    Calls Tryz.prog 57 #[.slice ao (lst P).length cap, .agg #[.int .i64 x, .int .i64 y, .int .i64 z, .bool s, .slice xo xn xc, .slice yo yn yc]] w (PolOut w (putQ2 P (x, y, z) q)) := by
  have hposs := hid (fun W => possible_any (x, y, z) W)
  have hbA : Below w.heap.size w (w.alloc (.cells #[.int .i64 x, .int .i64 y, .int .i64 z, .bool s, .slice xo xn xc, .slice yo yn yc] 59)) := below_alloc _
  have hGa := H6.fresh w x y z s xo xn xc yo yn yc 59
  have hPa := h.next hbA
  have hra := hr.next hbA
  have hlen := len_lst P
  obtain ⟨n, hn⟩ : ∃ n, (lst P).length = n := ⟨_, rfl⟩
  have Hn := hid hn
  have hPK := hid hP
  have hqK := hid hq
  have hpol0 := h
  unfold PolC at hPa hpol0
  rw [hn] at hPa hpol0 hlen ⊢
  have Hpol0 := hid hpol0
  clear hpol0
  cases hok : okE (x, y, z) with
  | false =>
    have hno := hid (put_no (P := P) (q := q) hok)
    rw [hok] at hposs
    clear h hr hra hok hn hP hq
    simp only [H6, H3, Nat.zero_add] at hGa
    obtain ⟨⟨x0, x1, x2⟩, x3, x4, x5⟩ := hGa
    go_enter Tryz.func57, Tryz.ntmps57
    go_wp2_with fail
    refine (hposs.out _).mono ?_; rintro e w1 ⟨rfl, hb1⟩
    have hP1 := Pol.nextC hPa hb1
    have hbel1 := below_chain hbA hb1
    clear hPa hbA x0 x1 x2 x3 x4 x5
    go_wp2_with fail
    go_ret
    rw [hno.out]
    exact ⟨ao, cap, by rw [Hn.out]; rfl, by unfold PolC; rw [Hn.out]; exact hP1, hbel1⟩
  | true =>
    have hOk := hid hok
    rw [hok] at hposs
    obtain ⟨G, hG⟩ : ∃ G, w.heap.size = G := ⟨_, rfl⟩
    have hB1 : B6 G ((x, y, z), s, (xo, xn, xc), (yo, yn, yc)) (w.alloc (.cells #[.int .i64 x, .int .i64 y, .int .i64 z, .bool s, .slice xo xn xc, .slice yo yn yc] 59)) := by rw [← hG]; exact B6.fresh w ((x, y, z), s, (xo, xn, xc), (yo, yn, yc)) _
    have HG := hid hB1
    have hG1 := hB1.h6
    obtain ⟨g, hg⟩ : ∃ g, rsg q = g := ⟨_, rfl⟩
    have hgz := hid (rsg_eq (q := q))
    rw [hg] at hgz
    have Hg := hid hg
    have hsg := hid (fun (W : World) (v : Value) (h : RatV W v q) => rSign_any q v W h)
    rw [hg] at hsg
    clear h hr hok hn hP hq hGa hg hB1
    simp only [H6, H3, Nat.zero_add] at hG1
    obtain ⟨⟨x0, x1, x2⟩, x3, x4, x5⟩ := hG1
    go_enter Tryz.func57, Tryz.ntmps57
    go_wp2_with fail
    refine (hposs.out _).mono ?_; rintro e w1 ⟨rfl, hb1⟩
    have hP1 := Pol.nextC hPa hb1
    have hr1 := hra.next hb1
    have HG1 := hid (HG.out.next hb1)
    have hbel1 := below_chain hbA hb1
    have hG1 := HG1.out.h6
    simp only [H6, H3, Nat.zero_add] at hG1
    clear hPa hbA x0 x1 x2 x3 x4 x5 hra
    obtain ⟨⟨x0, x1, x2⟩, x3, x4, x5⟩ := hG1
    have hr1V := hr1.toV hqK.out (by omega)
    go_wp2_with fail
    refine (hsg.out _ _ hr1V).mono ?_; rintro e w2 ⟨rfl, hb2⟩
    have hP2 := Pol.nextC hP1 hb2
    have hr2 := hr1.next hb2
    have hG2' := HG1.out.next hb2
    have hbel2 := below_chain hbel1 hb2
    clear hP1 hr1 hr1V x0 x1 x2 x3 x4 x5 hbel1
    by_cases hz : q = 0
    · have hc : (g == 0) = true := by rw [hgz.out]; simp [hz]
      have hres := hid (fun W (h : PolC W ao cap P) => show PolC W ao cap (putQ2 P (x, y, z) q) from h.congr (by rw [hz]; exact put_zero))
      have hlz : Hid ((lst (putQ2 P (x, y, z) q)).length = n) := hid (by rw [← Hn.out, hz, ← lst_congr (put_zero (P := P) (e := (x, y, z)))])
      clear hG2' hr2
      go_wp2_with fail
      go_ret
      exact ⟨ao, cap, by rw [hlz.out]; rfl, hres.out _ (by unfold PolC; rw [Hn.out]; exact hP2), hbel2⟩
    · have hc : (g == 0) = false := by rw [hgz.out]; simp [hz]
      have hQ := hid hz
      clear hz
      go_wp2_with fail
      go_loopw [5] (fun iv wr => ∃ i : Nat, i ≤ n ∧ iv = .int .i64 i ∧ Hid (Past P (x, y, z) i) ∧ Pol RatC wr ao n cap ((lst P).map toM) ∧ B6 G ((x, y, z), s, (xo, xn, xc), (yo, yn, yc)) wr ∧ RatC wr (.agg #[.bool s, .slice xo xn xc, .slice yo yn yc]) q ∧ Below w.heap.size w wr) (fun iv _ => n - (intOf iv).toNat)
      case atStart => exact ⟨0, by omega, rfl, hid (Past.zero _ _), hP2, hG2', hr2, hbel2⟩
      case round =>
        clear hP2 hG2' hr2 hbel2 hb1 hb2
        obtain ⟨i, hi, rfl, hpast, hPr, hGr, hrr, hbel⟩ := hrel
        by_cases hlt : i < n
        · obtain ⟨b, o, e1, e2, e3, q2, s2, xo2, xn2, xc2, yo2, yn2, yc2, hm, rfl, hx, hrq⟩ := hPr.atM hlt
          have hdd : Below wr.heap.size wr wr.drew := (Below.refl _ _).drew
          have hSS := And.intro (H6.next hx hdd) (H3.next hGr.h6.1 hdd)
          have hM := hid hm
          have i0 : (0 : Int) ≤ (i : Int) := by omega
          have i1 : (i : Int) < (n : Int) := by omega
          have hP1 := Pol.nextC hPr hdd
          have hr1 := hrr.next hdd
          have hrq1 := hrq.next hdd
          have HG1 := hid (hGr.next hdd)
          have hbel1 := below_chain hbel hdd
          obtain ⟨R, hR⟩ : ∃ R, ordI (x, y, z) ((e1 : Int), (e2 : Int), (e3 : Int)) = R := ⟨_, rfl⟩
          have hG2 := hid hR
          have hpos := hid (ord_pos (d := ((e1 : Int), (e2 : Int), (e3 : Int))) (e := (x, y, z)))
          rw [hR] at hpos
          clear hPr hrr hx hrq hGr hm hR hbel
          cases hgt : gtI ((e1 : Int), (e2 : Int), (e3 : Int)) (x, y, z) with
          | true =>
            have c1 : decide (0 < R) = true := by rw [hpos.out, hgt]
            have hgE := hid hgt
            clear hgt
            go_wp2_with fail
            refine wp_region_D (fun w' => H6 b (o + i * 6) (e1 : Int) (e2 : Int) (e3 : Int) s2 xo2 xn2 xc2 yo2 yn2 yc2 w' ∧ H3 G 0 x y z w') [] (by kernel_rfl) ?_
            refine wpAnyD_take (i := 0) (v := ?_) rfl (by kernel_rfl) (by kernel_rfl) (by kernel_rfl) (by kernel_rfl) (fun _ _ _ h => h) (Or.inl ⟨by rfl, ?_⟩) hSS ?_
            rotate_left
            · intro w _; first | (go_simp; done) | (go_simp; with_reducible rfl)
            refine wpAnyD_take (i := 1) (v := ?_) rfl (by kernel_rfl) (by kernel_rfl) (by kernel_rfl) (by kernel_rfl) (fun _ _ _ h => h) (Or.inl ⟨by rfl, ?_⟩) hSS ?_
            rotate_left
            · intro w _; first | (go_simp; done) | (go_simp; with_reducible rfl)
            refine wpAnyD_take (i := 2) (v := ?_) rfl (by kernel_rfl) (by kernel_rfl) (by kernel_rfl) (by kernel_rfl) (fun _ _ _ h => h) (Or.inl ⟨by rfl, ?_⟩) hSS ?_
            rotate_left
            · intro w _; first | (go_simp; done) | (go_simp; with_reducible rfl)
            refine wpAnyD_take (i := 3) (v := ?_) rfl (by kernel_rfl) (by kernel_rfl) (by kernel_rfl) (by kernel_rfl) (fun _ _ _ h => h) (Or.inl ⟨by rfl, ?_⟩) hSS ?_
            rotate_left
            · intro w _; first | (go_simp; done) | (go_simp; with_reducible rfl)
            refine wpAnyD_take (i := 4) (v := ?_) rfl (by kernel_rfl) (by kernel_rfl) (by kernel_rfl) (by kernel_rfl) (fun _ _ _ h => h) (Or.inl ⟨by rfl, ?_⟩) hSS ?_
            rotate_left
            · intro w _; first | (go_simp; done) | (go_simp; with_reducible rfl)
            refine wpAnyD_take (i := 5) (v := ?_) rfl (by kernel_rfl) (by kernel_rfl) (by kernel_rfl) (by kernel_rfl) (fun _ _ _ h => h) (Or.inl ⟨by kernel_rfl, ?_⟩) hSS ?_
            rotate_left
            · intro w _; first | (go_simp; done) | (go_simp; with_reducible rfl)
            refine wpAnyD_take (i := 6) (v := ?_) rfl (by kernel_rfl) (by kernel_rfl) (by kernel_rfl) (by kernel_rfl) (fun _ _ _ h => h) (Or.inl ⟨by kernel_rfl, ?_⟩) hSS ?_
            rotate_left
            · intro w _; first | (go_simp; done) | (go_simp; with_reducible rfl)
            refine wpAnyD_take (i := 7) (v := ?_) rfl (by kernel_rfl) (by kernel_rfl) (by kernel_rfl) (by kernel_rfl) (fun _ _ _ h => h) (Or.inl ⟨by kernel_rfl, ?_⟩) hSS ?_
            rotate_left
            · intro w _; first | (go_simp; done) | (go_simp; with_reducible rfl)
            refine wpAnyD_take (i := 8) (v := ?_) rfl (by kernel_rfl) (by kernel_rfl) (by kernel_rfl) (by kernel_rfl) (fun _ _ _ h => h) (Or.inl ⟨by kernel_rfl, ?_⟩) hSS ?_
            rotate_left
            · intro w _; first | (go_simp; done) | (go_simp; with_reducible rfl)
            refine wpAnyD_take (i := 9) (v := ?_) rfl (by kernel_rfl) (by kernel_rfl) (by kernel_rfl) (by kernel_rfl) (fun _ _ _ h => h) (Or.inl ⟨by kernel_rfl, ?_⟩) hSS ?_
            rotate_left
            · intro w hw; obtain ⟨⟨⟨s1', s2', s3'⟩, s4', s5', s6'⟩, z1', z2', z3'⟩ := hw; first | (go_simp; done) | (go_simp; with_reducible rfl)
            refine wpAnyD_take (i := 10) (v := ?_) rfl (by kernel_rfl) (by kernel_rfl) (by kernel_rfl) (by kernel_rfl) (fun _ _ _ h => h) (Or.inl ⟨by kernel_rfl, ?_⟩) hSS ?_
            rotate_left
            · intro w _; first | (go_simp; done) | (go_simp; with_reducible rfl)
            refine wpAnyD_take (i := 11) (v := ?_) rfl (by kernel_rfl) (by kernel_rfl) (by kernel_rfl) (by kernel_rfl) (fun _ _ _ h => h) (Or.inl ⟨by kernel_rfl, ?_⟩) hSS ?_
            rotate_left
            · intro w hw; obtain ⟨⟨⟨s1', s2', s3'⟩, s4', s5', s6'⟩, z1', z2', z3'⟩ := hw; first | (go_simp; done) | (go_simp; with_reducible rfl)
            refine wpAnyD_one (i := 12) (by kernel_rfl) rfl (fun KK hKK => ?_)
            go_simp
            go_at_call 51
            refine (rorder_any ((e1 : Int), (e2 : Int), (e3 : Int)) (x, y, z) _).mono ?_; rw [hG2.out]; rintro e w5 ⟨rfl, hb5⟩
            have hS5 := And.intro (H6.next hSS.1 hb5) (H3.next hSS.2 hb5)
            refine hKK _ _ ⟨fun _ => hS5, ?_⟩; clear hKK KK
            refine wpAnyD_take (i := 13) (v := ?_) rfl (by kernel_rfl) (by kernel_rfl) (by kernel_rfl) (by kernel_rfl) (fun _ _ _ h => h) (Or.inl ⟨by kernel_rfl, ?_⟩) hS5 ?_
            rotate_left
            · intro w _; first | (go_simp; done) | (go_simp; with_reducible rfl)
            refine wpAnyD_take (i := 14) (v := ?_) rfl (by kernel_rfl) (by kernel_rfl) (by kernel_rfl) (by kernel_rfl) (fun _ _ _ h => h) (Or.inl ⟨by rfl, ?_⟩) hS5 ?_
            rotate_left
            · intro w _; first | (go_simp; done) | (go_simp; with_reducible rfl)
            refine wpAnyD_done (by kernel_rfl) ?_ _
            go_simp
            have hP5 := Pol.nextC hP1 hb5
            have hr5 := hr1.next hb5
            have hG5 := HG1.out.next hb5
            have hbel5 := below_chain hbel1 hb5
            have hpast5 := hid (hpast.out.step hM.out (by rw [← gtI_gtE, exI_exN hOk.out]; exact hgE.out))
            clear hP1 hr1 hrq1 hbel1
            trace_state
            go_wp2_with fail
            go_roundw
            case rel => exact ⟨i + 1, by omega, by simp, hpast5, hP5, hG5, hr5, hbel5⟩
            case measure => simp [intOf]; omega
          | false =>
            have c1 : decide (0 < R) = false := by rw [hpos.out, hgt]
            have hgE : Hid (gtE (e1, e2, e3) (exN (x, y, z)) = false) := hid (by rw [← gtI_gtE, exI_exN hOk.out]; exact hgt)
            clear hgt
            go_wp2_with fail
            refine wp_region_D (fun w' => H6 b (o + i * 6) (e1 : Int) (e2 : Int) (e3 : Int) s2 xo2 xn2 xc2 yo2 yn2 yc2 w' ∧ H3 G 0 x y z w') [] (by kernel_rfl) ?_
            refine wpAnyD_take (i := 0) (v := ?_) rfl (by kernel_rfl) (by kernel_rfl) (by kernel_rfl) (by kernel_rfl) (fun _ _ _ h => h) (Or.inl ⟨by rfl, ?_⟩) hSS ?_
            rotate_left
            · intro w _; first | (go_simp; done) | (go_simp; with_reducible rfl)
            refine wpAnyD_take (i := 1) (v := ?_) rfl (by kernel_rfl) (by kernel_rfl) (by kernel_rfl) (by kernel_rfl) (fun _ _ _ h => h) (Or.inl ⟨by rfl, ?_⟩) hSS ?_
            rotate_left
            · intro w _; first | (go_simp; done) | (go_simp; with_reducible rfl)
            refine wpAnyD_take (i := 2) (v := ?_) rfl (by kernel_rfl) (by kernel_rfl) (by kernel_rfl) (by kernel_rfl) (fun _ _ _ h => h) (Or.inl ⟨by rfl, ?_⟩) hSS ?_
            rotate_left
            · intro w _; first | (go_simp; done) | (go_simp; with_reducible rfl)
            refine wpAnyD_take (i := 3) (v := ?_) rfl (by kernel_rfl) (by kernel_rfl) (by kernel_rfl) (by kernel_rfl) (fun _ _ _ h => h) (Or.inl ⟨by rfl, ?_⟩) hSS ?_
            rotate_left
            · intro w _; first | (go_simp; done) | (go_simp; with_reducible rfl)
            refine wpAnyD_take (i := 4) (v := ?_) rfl (by kernel_rfl) (by kernel_rfl) (by kernel_rfl) (by kernel_rfl) (fun _ _ _ h => h) (Or.inl ⟨by rfl, ?_⟩) hSS ?_
            rotate_left
            · intro w _; first | (go_simp; done) | (go_simp; with_reducible rfl)
            refine wpAnyD_take (i := 5) (v := ?_) rfl (by kernel_rfl) (by kernel_rfl) (by kernel_rfl) (by kernel_rfl) (fun _ _ _ h => h) (Or.inl ⟨by kernel_rfl, ?_⟩) hSS ?_
            rotate_left
            · intro w _; first | (go_simp; done) | (go_simp; with_reducible rfl)
            refine wpAnyD_take (i := 6) (v := ?_) rfl (by kernel_rfl) (by kernel_rfl) (by kernel_rfl) (by kernel_rfl) (fun _ _ _ h => h) (Or.inl ⟨by kernel_rfl, ?_⟩) hSS ?_
            rotate_left
            · intro w _; first | (go_simp; done) | (go_simp; with_reducible rfl)
            refine wpAnyD_take (i := 7) (v := ?_) rfl (by kernel_rfl) (by kernel_rfl) (by kernel_rfl) (by kernel_rfl) (fun _ _ _ h => h) (Or.inl ⟨by kernel_rfl, ?_⟩) hSS ?_
            rotate_left
            · intro w _; first | (go_simp; done) | (go_simp; with_reducible rfl)
            refine wpAnyD_take (i := 8) (v := ?_) rfl (by kernel_rfl) (by kernel_rfl) (by kernel_rfl) (by kernel_rfl) (fun _ _ _ h => h) (Or.inl ⟨by kernel_rfl, ?_⟩) hSS ?_
            rotate_left
            · intro w _; first | (go_simp; done) | (go_simp; with_reducible rfl)
            refine wpAnyD_take (i := 9) (v := ?_) rfl (by kernel_rfl) (by kernel_rfl) (by kernel_rfl) (by kernel_rfl) (fun _ _ _ h => h) (Or.inl ⟨by kernel_rfl, ?_⟩) hSS ?_
            rotate_left
            · intro w hw; obtain ⟨⟨⟨s1', s2', s3'⟩, s4', s5', s6'⟩, z1', z2', z3'⟩ := hw; first | (go_simp; done) | (go_simp; with_reducible rfl)
            refine wpAnyD_take (i := 10) (v := ?_) rfl (by kernel_rfl) (by kernel_rfl) (by kernel_rfl) (by kernel_rfl) (fun _ _ _ h => h) (Or.inl ⟨by kernel_rfl, ?_⟩) hSS ?_
            rotate_left
            · intro w _; first | (go_simp; done) | (go_simp; with_reducible rfl)
            refine wpAnyD_take (i := 11) (v := ?_) rfl (by kernel_rfl) (by kernel_rfl) (by kernel_rfl) (by kernel_rfl) (fun _ _ _ h => h) (Or.inl ⟨by kernel_rfl, ?_⟩) hSS ?_
            rotate_left
            · intro w hw; obtain ⟨⟨⟨s1', s2', s3'⟩, s4', s5', s6'⟩, z1', z2', z3'⟩ := hw; first | (go_simp; done) | (go_simp; with_reducible rfl)
            refine wpAnyD_one (i := 12) (by kernel_rfl) rfl (fun KK hKK => ?_)
            go_simp
            go_at_call 51
            refine (rorder_any ((e1 : Int), (e2 : Int), (e3 : Int)) (x, y, z) _).mono ?_; rw [hG2.out]; rintro e w5 ⟨rfl, hb5⟩
            have hS5 := And.intro (H6.next hSS.1 hb5) (H3.next hSS.2 hb5)
            refine hKK _ _ ⟨fun _ => hS5, ?_⟩; clear hKK KK
            refine wpAnyD_take (i := 13) (v := ?_) rfl (by kernel_rfl) (by kernel_rfl) (by kernel_rfl) (by kernel_rfl) (fun _ _ _ h => h) (Or.inl ⟨by kernel_rfl, ?_⟩) hS5 ?_
            rotate_left
            · intro w _; first | (go_simp; done) | (go_simp; with_reducible rfl)
            refine wpAnyD_take (i := 14) (v := ?_) rfl (by kernel_rfl) (by kernel_rfl) (by kernel_rfl) (by kernel_rfl) (fun _ _ _ h => h) (Or.inl ⟨by rfl, ?_⟩) hS5 ?_
            rotate_left
            · intro w _; first | (go_simp; done) | (go_simp; with_reducible rfl)
            refine wpAnyD_done (by kernel_rfl) ?_ _
            go_simp
            have hP5 := Pol.nextC hP1 hb5
            have hr5 := hr1.next hb5
            have HG5 := hid (HG1.out.next hb5)
            have hrq5 := hrq1.next hb5
            have hbel5 := below_chain hbel1 hb5
            clear hP1 hr1 hrq1 hbel1 hb5
            obtain ⟨a6, c6, hs6, hp6⟩ := cut_to hP5 (k := i) (by omega)
            go_wp2_with (at_builtin; go_loud (refine wp_appPol rfl (.const (.slice none 0 0)) (.tmp 37) rfl w5.heap.size _ 0 [] rfl (POwn.nil _ _) a6 i c6 _ rfl hp6 (by decide) (by omega) (Nat.le_refl _) ?_))
            intro v6 w6 ys hy hown6 hg6 hb6 _
            clear hs6 hp6 hg6
            obtain ⟨base6, hbase⟩ : ∃ B, w5.heap.size = B := ⟨_, rfl⟩
            rw [hbase] at hown6
            try simp only [Nat.zero_add, List.nil_append] at hown6
            have hbw6 : w.heap.size ≤ base6 := by rw [← hbase]; exact hbel5.size
            have hGb : G < base6 := by rw [← hbase]; exact HG5.out.lt
            have hdd6 : Below w6.heap.size w6 w6.drew := (Below.refl _ _).drew
            have hb6d := below_chain hb6 hdd6
            have hy6 := hid hy
            have hbs6 : base6 ≤ w6.drew.heap.size := by rw [← hbase]; exact hb6d.size
            have HG6 := hid (HG5.out.next hb6d)
            have hS6 := And.intro (H6.next hS5.1 hb6d) (H3.next hS5.2 hb6d)
            have hP6 := Pol.nextC hP5 hb6d
            have hr6 := hr5.next hb6d
            have hrq6 := hrq5.next hb6d
            have hown6d := hown6.next hdd6
            have hbel6 := below_chain hbel5 hb6d
            have hne7 := hid (ord_ne (d := ((e1 : Int), (e2 : Int), (e3 : Int))) (e := (x, y, z)))
            rw [hG2.out] at hne7
            have i2 : ¬ (i : Int) = (n : Int) := by omega
            have i3 : ¬ i = n := by omega
            have i4 : ((i : Int) == (n : Int)) = false := by simp; omega
            have i5 : decide ((i : Int) = (n : Int)) = false := by simp; omega
            have i6 : decide (i = n) = false := by simp [i3]
            clear hP5 hr5 hrq5 hown6 hbel5 hS5 hSS hb6 hb6d hdd6 hy hbase
            by_cases hsame : ((e1 : Int), (e2 : Int), (e3 : Int)) = (x, y, z)
            · have c2 : (R != 0) = false := by rw [hne7.out]; simp [hsame]
              have hsm : Hid ((e1, e2, e3) = exN (x, y, z)) := hid (by rw [← hsame]; rfl)
              clear hsame hne7
              go_wp2_with fail
              refine wp_region_D (fun w' => H6 b (o + i * 6) (e1 : Int) (e2 : Int) (e3 : Int) s2 xo2 xn2 xc2 yo2 yn2 yc2 w' ∧ H3 G 0 x y z w') [] (by kernel_rfl) ?_
              refine wpAnyD_take (i := 0) (v := ?_) rfl (by kernel_rfl) (by kernel_rfl) (by kernel_rfl) (by kernel_rfl) (fun _ _ _ h => h) (Or.inl ⟨by rfl, ?_⟩) hS6 ?_
              rotate_left
              · intro w _; first | (go_simp; done) | (go_simp; with_reducible rfl)
              refine wpAnyD_take (i := 1) (v := ?_) rfl (by kernel_rfl) (by kernel_rfl) (by kernel_rfl) (by kernel_rfl) (fun _ _ _ h => h) (Or.inl ⟨by rfl, ?_⟩) hS6 ?_
              rotate_left
              · intro w _; first | (go_simp; done) | (go_simp; with_reducible rfl)
              refine wpAnyD_take (i := 2) (v := ?_) rfl (by kernel_rfl) (by kernel_rfl) (by kernel_rfl) (by kernel_rfl) (fun _ _ _ h => h) (Or.inl ⟨by rfl, ?_⟩) hS6 ?_
              rotate_left
              · intro w _; first | (go_simp; done) | (go_simp; with_reducible rfl)
              refine wpAnyD_take (i := 3) (v := ?_) rfl (by kernel_rfl) (by kernel_rfl) (by kernel_rfl) (by kernel_rfl) (fun _ _ _ h => h) (Or.inl ⟨by rfl, ?_⟩) hS6 ?_
              rotate_left
              · intro w _; first | (go_simp; done) | (go_simp; with_reducible rfl)
              refine wpAnyD_take (i := 4) (v := ?_) rfl (by kernel_rfl) (by kernel_rfl) (by kernel_rfl) (by kernel_rfl) (fun _ _ _ h => h) (Or.inl ⟨by rfl, ?_⟩) hS6 ?_
              rotate_left
              · intro w _; first | (go_simp; done) | (go_simp; with_reducible rfl)
              refine wpAnyD_take (i := 5) (v := ?_) rfl (by kernel_rfl) (by kernel_rfl) (by kernel_rfl) (by kernel_rfl) (fun _ _ _ h => h) (Or.inl ⟨by kernel_rfl, ?_⟩) hS6 ?_
              rotate_left
              · intro w _; first | (go_simp; done) | (go_simp; with_reducible rfl)
              refine wpAnyD_take (i := 6) (v := ?_) rfl (by kernel_rfl) (by kernel_rfl) (by kernel_rfl) (by kernel_rfl) (fun _ _ _ h => h) (Or.inl ⟨by kernel_rfl, ?_⟩) hS6 ?_
              rotate_left
              · intro w _; first | (go_simp; done) | (go_simp; with_reducible rfl)
              refine wpAnyD_take (i := 7) (v := ?_) rfl (by kernel_rfl) (by kernel_rfl) (by kernel_rfl) (by kernel_rfl) (fun _ _ _ h => h) (Or.inl ⟨by kernel_rfl, ?_⟩) hS6 ?_
              rotate_left
              · intro w _; first | (go_simp; done) | (go_simp; with_reducible rfl)
              refine wpAnyD_take (i := 8) (v := ?_) rfl (by kernel_rfl) (by kernel_rfl) (by kernel_rfl) (by kernel_rfl) (fun _ _ _ h => h) (Or.inl ⟨by kernel_rfl, ?_⟩) hS6 ?_
              rotate_left
              · intro w _; first | (go_simp; done) | (go_simp; with_reducible rfl)
              refine wpAnyD_take (i := 9) (v := ?_) rfl (by kernel_rfl) (by kernel_rfl) (by kernel_rfl) (by kernel_rfl) (fun _ _ _ h => h) (Or.inl ⟨by kernel_rfl, ?_⟩) hS6 ?_
              rotate_left
              · intro w hw; obtain ⟨⟨⟨s1', s2', s3'⟩, s4', s5', s6'⟩, z1', z2', z3'⟩ := hw; first | (go_simp; done) | (go_simp; with_reducible rfl)
              refine wpAnyD_take (i := 10) (v := ?_) rfl (by kernel_rfl) (by kernel_rfl) (by kernel_rfl) (by kernel_rfl) (fun _ _ _ h => h) (Or.inl ⟨by kernel_rfl, ?_⟩) hS6 ?_
              rotate_left
              · intro w _; first | (go_simp; done) | (go_simp; with_reducible rfl)
              refine wpAnyD_take (i := 11) (v := ?_) rfl (by kernel_rfl) (by kernel_rfl) (by kernel_rfl) (by kernel_rfl) (fun _ _ _ h => h) (Or.inl ⟨by kernel_rfl, ?_⟩) hS6 ?_
              rotate_left
              · intro w hw; obtain ⟨⟨⟨s1', s2', s3'⟩, s4', s5', s6'⟩, z1', z2', z3'⟩ := hw; first | (go_simp; done) | (go_simp; with_reducible rfl)
              refine wpAnyD_one (i := 12) (by kernel_rfl) rfl (fun KK hKK => ?_)
              go_simp
              go_at_call 51
              refine (rorder_any ((e1 : Int), (e2 : Int), (e3 : Int)) (x, y, z) _).mono ?_; rw [hG2.out]; rintro e w7 ⟨rfl, hb7⟩
              have hS7 := And.intro (H6.next hS6.1 hb7) (H3.next hS6.2 hb7)
              refine hKK _ _ ⟨fun _ => hS7, ?_⟩; clear hKK KK
              refine wpAnyD_take (i := 13) (v := ?_) rfl (by kernel_rfl) (by kernel_rfl) (by kernel_rfl) (by kernel_rfl) (fun _ _ _ h => h) (Or.inl ⟨by kernel_rfl, ?_⟩) hS7 ?_
              rotate_left
              · intro w _; first | (go_simp; done) | (go_simp; with_reducible rfl)
              refine wpAnyD_take (i := 14) (v := ?_) rfl (by kernel_rfl) (by kernel_rfl) (by kernel_rfl) (by kernel_rfl) (fun _ _ _ h => h) (Or.inl ⟨by rfl, ?_⟩) hS7 ?_
              rotate_left
              · intro w _; first | (go_simp; done) | (go_simp; with_reducible rfl)
              refine wpAnyD_done (by kernel_rfl) ?_ _
              go_simp
              have hdd7 : Below w7.heap.size w7 w7.drew := (Below.refl _ _).drew
              have hb7d := below_chain hb7 hdd7
              have HB8 := hid (HG6.out.next hb7d)
              have hS8 := And.intro HB8.out.h6 ((hS7.1).next hdd7)
              have hr8 := hr6.next hb7d
              have hrq8 := hrq6.next hb7d
              have hown8 := hown6d.next hb7d
              have hbel8 := below_chain hbel6 hb7d
              have hbs8 := Nat.le_trans hbs6 hb7d.size
              have hf2 := hid (hPK.out.mem (List.mem_of_getElem? hM.out))
              have hr8V := hr8.toV hqK.out (by omega)
              have hrq8V := hrq8.toV hf2.out (by omega)
              have hGw := hid hG
              clear hP6 hr6 hrq6 hown6d hbel6 hS6 hS7 hb7d hdd7 hbs6
              go_wp2_with fail
              clear hb7 hr8 hrq8
              refine wp_region_D (fun w' => H6 G 0 x y z s xo xn xc yo yn yc w' ∧ H6 b (o + i * 6) (e1 : Int) (e2 : Int) (e3 : Int) s2 xo2 xn2 xc2 yo2 yn2 yc2 w') [9] (by kernel_rfl) ?_
              refine wpAnyD_take (i := 0) (v := ?_) rfl (by kernel_rfl) (by kernel_rfl) (by kernel_rfl) (by kernel_rfl) (fun _ _ _ h => h) (Or.inl ⟨by rfl, ?_⟩) hS8 ?_
              rotate_left
              · intro w _; first | (go_simp; done) | (go_simp; with_reducible rfl)
              refine wpAnyD_take (i := 1) (v := ?_) rfl (by kernel_rfl) (by kernel_rfl) (by kernel_rfl) (by kernel_rfl) (fun _ _ _ h => h) (Or.inl ⟨by rfl, ?_⟩) hS8 ?_
              rotate_left
              · intro w hw; obtain ⟨⟨⟨z1', z2', z3'⟩, z4', z5', z6'⟩, ⟨s1', s2', s3'⟩, s4', s5', s6'⟩ := hw; first | (go_simp; done) | (go_simp; with_reducible rfl)
              refine wpAnyD_take (i := 2) (v := ?_) rfl (by kernel_rfl) (by kernel_rfl) (by kernel_rfl) (by kernel_rfl) (fun _ _ _ h => h) (Or.inl ⟨by rfl, ?_⟩) hS8 ?_
              rotate_left
              · intro w _; first | (go_simp; done) | (go_simp; with_reducible rfl)
              refine wpAnyD_take (i := 3) (v := ?_) rfl (by kernel_rfl) (by kernel_rfl) (by kernel_rfl) (by kernel_rfl) (fun _ _ _ h => h) (Or.inl ⟨by rfl, ?_⟩) hS8 ?_
              rotate_left
              · intro w _; first | (go_simp; done) | (go_simp; with_reducible rfl)
              refine wpAnyD_take (i := 4) (v := ?_) rfl (by kernel_rfl) (by kernel_rfl) (by kernel_rfl) (by kernel_rfl) (fun _ _ _ h => h) (Or.inl ⟨by rfl, ?_⟩) hS8 ?_
              rotate_left
              · intro w _; first | (go_simp; done) | (go_simp; with_reducible rfl)
              refine wpAnyD_take (i := 5) (v := ?_) rfl (by kernel_rfl) (by kernel_rfl) (by kernel_rfl) (by kernel_rfl) (fun _ _ _ h => h) (Or.inl ⟨by rfl, ?_⟩) hS8 ?_
              rotate_left
              · intro w _; first | (go_simp; done) | (go_simp; with_reducible rfl)
              refine wpAnyD_take (i := 6) (v := ?_) rfl (by kernel_rfl) (by kernel_rfl) (by kernel_rfl) (by kernel_rfl) (fun _ _ _ h => h) (Or.inl ⟨by rfl, ?_⟩) hS8 ?_
              rotate_left
              · intro w hw; obtain ⟨⟨⟨z1', z2', z3'⟩, z4', z5', z6'⟩, ⟨s1', s2', s3'⟩, s4', s5', s6'⟩ := hw; first | (go_simp; done) | (go_simp; with_reducible rfl)
              refine wpAnyD_one (i := 7) (by kernel_rfl) rfl (fun KK hKK => ?_)
              go_simp
              go_at_call 39
              refine (rAdd_any q q2 _ _ _ hr8V hrq8V k hqK.out hf2.out (by omega)).mono ?_; rintro e w9 ⟨v9, rfl, C9, hb9⟩
              obtain ⟨t, to', tn, tc, uo, un, uc, rfl⟩ := C9.shape6
              have hS9 := And.intro (H6.next hS8.1 hb9) (H6.next hS8.2 hb9)
              have HB9 := hid (HB8.out.next hb9)
              have hown9 := hown8.next hb9
              have hbel9 := below_chain hbel8 hb9
              have hbs9 := Nat.le_trans hbs8 hb9.size
              clear hr8V hrq8V hown8 hbel8 hbs8
              refine hKK _ _ ⟨fun _ => hS9, ?_⟩; clear hKK KK
              refine wpAnyD_take (i := 8) (v := ?_) rfl (by kernel_rfl) (by kernel_rfl) (by kernel_rfl) (by kernel_rfl) (fun _ _ _ h => h) (Or.inl ⟨by rfl, ?_⟩) hS9 ?_
              rotate_left
              · intro w _; first | (go_simp; done) | (go_simp; with_reducible rfl)
              refine wpAnyD_one (i := 9) (by kernel_rfl) rfl (fun KK hKK => ?_)
              have hG9 := HB9.out.h6
              simp only [H6, H3, Nat.zero_add] at hG9
              obtain ⟨⟨x0, x1, x2⟩, x3, x4, x5⟩ := hG9
              have f3 := HB9.out.free 3
              have f4 := HB9.out.free 4
              have f5 := HB9.out.free 5
              go_simp
              refine hKK _ _ ⟨fun hn => absurd (by simp) hn, ?_⟩; clear hKK KK
              refine wpAnyD_done (by kernel_rfl) ?_ _
              go_simp
              have hB10 := HB9.out.put (c' := (t, (to', tn, tc), (uo, un, uc)))
              obtain ⟨TT, hownB⟩ := HB9.out.own
              have hg10 := grown_put3 w9 G (.bool t) (.slice to' tn tc) (.slice uo un uc)
              have hC10 := C9.grownU hownB isMon_u32 hg10
              have hown10 := hown9.kept hg10 (fun g hg' e => by have h1 := (hown9.1.1.lt g hg').1; injection e with e; omega) (fun u qq hu => hu.grownU hownB isMon_u32 hg10)
              have hbel10 := ((hbel9.setCell (p := ⟨G, 3, none⟩) (Nat.le_of_eq hGw.out) (.bool t)).setCell (p := ⟨G, 4, none⟩) (Nat.le_of_eq hGw.out) (.slice to' tn tc)).setCell (p := ⟨G, 5, none⟩) (Nat.le_of_eq hGw.out) (.slice uo un uc)
              have hbs10 := Nat.le_trans hbs9 (hg10.size)
              obtain ⟨w10, hw10⟩ : ∃ W, ((w9.setCell ⟨G, 3, none⟩ (.bool t)).setCell ⟨G, 4, none⟩ (.slice to' tn tc)).setCell ⟨G, 5, none⟩ (.slice uo un uc) = W := ⟨_, rfl⟩
              rw [hw10] at hB10 hC10 hown10 hbel10 hbs10 ⊢
              clear hw10 hg10 hownB hown9 C9 hbel9 hbs9 hS9
              have HB10 := hid hB10
              have hG10 := hB10.h6
              simp only [H6, H3, Nat.zero_add] at hG10
              obtain ⟨⟨x0, x1, x2⟩, x3, x4, x5⟩ := hG10
              have hfs := hid (fit_add hqK.out hf2.out)
              have hCV := hC10.toV hfs.out (by omega)
              have hsg2 := hid (fun (W : World) (v : Value) (h : RatV W v (q + q2)) => rSign_any (q + q2) v W h)
              have hgn2 := hid (rsg_ne (q := q + q2))
              obtain ⟨g2, hg2⟩ : ∃ g, rsg (q + q2) = g := ⟨_, rfl⟩
              rw [hg2] at hsg2 hgn2
              clear hg2 hB10
              obtain ⟨a8, c8, hs8, hp8⟩ := cut_from Hpol0.out (k := i + 1) (by omega)
              have Hp8 := hid hp8
              have hs9 : ∀ W, (Instr.sliceAt 22 (.slice (some ⟨b, o, none⟩) n cap) (some (.int .i64 ((i : Int) + 1))) none none).run Tryz.prog W = .ok (.slice a8 (n - (i + 1)) c8) W := fun W => by
                rw [show ((i : Int) + 1) = ((i + 1 : Nat) : Int) by omega]; exact hs8 W
              clear hp8 hs8
              go_wp2_with fail
              refine (hsg2.out _ _ hCV).mono ?_; rintro e w11 ⟨rfl, hb11⟩
              have HB11 := hid (HB10.out.next hb11)
              have hC11 := hC10.next hb11
              have hown11 := hown10.next hb11
              have hbel11 := below_chain hbel10 hb11
              have hbs11 := Nat.le_trans hbs10 hb11.size
              clear x0 x1 x2 x3 x4 x5 hC10 hown10 hbel10 hbs10 hCV hb11
              by_cases hz2 : q + q2 = 0
              · have c3 : (g2 != 0) = false := by rw [hgn2.out]; simp [hz2]
                have hZ2 := hid hz2
                have hp11 := Pol.nextC Hp8.out hbel11
                clear hz2 hC11
                go_wp2_with (at_builtin; go_loud (refine wp_appPol rfl (.tmp 79) (.tmp 83) rfl base6 v6 i _ rfl hown11 a8 (n - (i + 1)) c8 _ rfl hp11 (by omega) (by omega) hbs11 ?_))
                intro v12 w12 zs hz12 hown12 hg12 hb12 _
                have hbel12 := hbel11.trans (hb12.mono hbw6)
                have hfin := hid (show rdP (ys ++ zs) = (lst (putQ2 P (x, y, z) q)).map toM from by rw [rdP_append, hz12, hy6.out, put_gone hOk.out hQ.out hpast.out hM.out hsm.out hZ2.out])
                obtain ⟨ro, rc, rfl, hres⟩ := hown12.polC hfin.out
                clear hown11 hown12 hp11
                go_wp2_with fail
                go_ret
                exact ⟨ro, rc, rfl, hres, hbel12⟩
              · have c3 : (g2 != 0) = true := by rw [hgn2.out]; simp [hz2]
                have hZ2 := hid hz2
                have hG11 := HB11.out.h6
                simp only [H6, H3, Nat.zero_add] at hG11
                obtain ⟨⟨x0, x1, x2⟩, x3, x4, x5⟩ := hG11
                have hbN : Below w11.heap.size w11 (w11.alloc (.cells #[.int .i64 x, .int .i64 y, .int .i64 z, .bool t, .slice to' tn tc, .slice uo un uc] 59)) := below_alloc _
                have hX12 := Hex.fresh w11 ((x, y, z), t, (to', tn, tc), (uo, un, uc)) 59
                have hown12 := hown11.next hbN
                have hC12 := hC11.next hbN
                have hbel12 := below_chain hbel11 hbN
                have hbs12 : base6 ≤ (w11.alloc (.cells #[.int .i64 x, .int .i64 y, .int .i64 z, .bool t, .slice to' tn tc, .slice uo un uc] 59)).heap.size := Nat.le_trans hbs11 hbN.size
                clear hz2 hC11 hown11
                go_wp2_with (at_builtin; go_loud (refine wp_appP rfl (.tmp 75) (.tmp 77) rfl base6 v6 i ys rfl hown12 w11.heap.size 0 1 1 rfl [(((x, y, z), t, (to', tn, tc), (uo, un, uc)), q + q2)] rfl (by decide) (hex_one hX12) (fun p hp => by obtain rfl := List.mem_singleton.1 hp; exact hC12) (by omega) (by decide) hbs12 ?_))
                intro v13 w13 hown13 hg13 hb13 _
                have hbel13 := hbel12.trans (hb13.mono hbw6)
                have hp13 := Pol.nextC Hp8.out hbel13
                have hbs13 := Nat.le_trans hbs12 hb13.size
                clear x0 x1 x2 x3 x4 x5 hown12 hC12 hX12 hbN hg13
                go_wp2_with (at_builtin; go_loud (refine wp_appPol rfl (.tmp 79) (.tmp 83) rfl base6 v13 (i + 1) _ rfl hown13 a8 (n - (i + 1)) c8 _ rfl hp13 (by omega) (by omega) hbs13 ?_))
                intro v14 w14 zs hz14 hown14 hg14 hb14 _
                have hbel14 := hbel13.trans (hb14.mono hbw6)
                have hfin := hid (show rdP (ys ++ [(((x, y, z), t, (to', tn, tc), (uo, un, uc)), q + q2)] ++ zs) = (lst (putQ2 P (x, y, z) q)).map toM from by rw [rdP_append, rdP_append, hz14, hy6.out, put_same hOk.out hQ.out hpast.out hM.out hsm.out hZ2.out]; rfl)
                obtain ⟨ro, rc, rfl, hres⟩ := hown14.polC (P := putQ2 P (x, y, z) q) (by have hh := hfin.out; (try simp only [List.append_assoc, List.singleton_append, List.cons_append, List.nil_append] at hh); (try simp only [List.append_assoc, List.singleton_append, List.cons_append, List.nil_append]); exact hh)
                clear hown13 hown14 hp13
                go_wp2_with fail
                go_ret
                exact ⟨ro, rc, rfl, hres, hbel14⟩
            · have c2 : (R != 0) = true := by rw [hne7.out]; simp [hsame]
              have hsm : Hid ((e1, e2, e3) ≠ exN (x, y, z)) := hid (fun k => hsame (by rw [← exI_exN hOk.out, ← k]; rfl))
              clear hsame hne7
              go_wp2_with fail
              refine wp_region_D (fun w' => H6 b (o + i * 6) (e1 : Int) (e2 : Int) (e3 : Int) s2 xo2 xn2 xc2 yo2 yn2 yc2 w' ∧ H3 G 0 x y z w') [] (by kernel_rfl) ?_
              refine wpAnyD_take (i := 0) (v := ?_) rfl (by kernel_rfl) (by kernel_rfl) (by kernel_rfl) (by kernel_rfl) (fun _ _ _ h => h) (Or.inl ⟨by rfl, ?_⟩) hS6 ?_
              rotate_left
              · intro w _; first | (go_simp; done) | (go_simp; with_reducible rfl)
              refine wpAnyD_take (i := 1) (v := ?_) rfl (by kernel_rfl) (by kernel_rfl) (by kernel_rfl) (by kernel_rfl) (fun _ _ _ h => h) (Or.inl ⟨by rfl, ?_⟩) hS6 ?_
              rotate_left
              · intro w _; first | (go_simp; done) | (go_simp; with_reducible rfl)
              refine wpAnyD_take (i := 2) (v := ?_) rfl (by kernel_rfl) (by kernel_rfl) (by kernel_rfl) (by kernel_rfl) (fun _ _ _ h => h) (Or.inl ⟨by rfl, ?_⟩) hS6 ?_
              rotate_left
              · intro w _; first | (go_simp; done) | (go_simp; with_reducible rfl)
              refine wpAnyD_take (i := 3) (v := ?_) rfl (by kernel_rfl) (by kernel_rfl) (by kernel_rfl) (by kernel_rfl) (fun _ _ _ h => h) (Or.inl ⟨by rfl, ?_⟩) hS6 ?_
              rotate_left
              · intro w _; first | (go_simp; done) | (go_simp; with_reducible rfl)
              refine wpAnyD_take (i := 4) (v := ?_) rfl (by kernel_rfl) (by kernel_rfl) (by kernel_rfl) (by kernel_rfl) (fun _ _ _ h => h) (Or.inl ⟨by rfl, ?_⟩) hS6 ?_
              rotate_left
              · intro w _; first | (go_simp; done) | (go_simp; with_reducible rfl)
              refine wpAnyD_take (i := 5) (v := ?_) rfl (by kernel_rfl) (by kernel_rfl) (by kernel_rfl) (by kernel_rfl) (fun _ _ _ h => h) (Or.inl ⟨by kernel_rfl, ?_⟩) hS6 ?_
              rotate_left
              · intro w _; first | (go_simp; done) | (go_simp; with_reducible rfl)
              refine wpAnyD_take (i := 6) (v := ?_) rfl (by kernel_rfl) (by kernel_rfl) (by kernel_rfl) (by kernel_rfl) (fun _ _ _ h => h) (Or.inl ⟨by kernel_rfl, ?_⟩) hS6 ?_
              rotate_left
              · intro w _; first | (go_simp; done) | (go_simp; with_reducible rfl)
              refine wpAnyD_take (i := 7) (v := ?_) rfl (by kernel_rfl) (by kernel_rfl) (by kernel_rfl) (by kernel_rfl) (fun _ _ _ h => h) (Or.inl ⟨by kernel_rfl, ?_⟩) hS6 ?_
              rotate_left
              · intro w _; first | (go_simp; done) | (go_simp; with_reducible rfl)
              refine wpAnyD_take (i := 8) (v := ?_) rfl (by kernel_rfl) (by kernel_rfl) (by kernel_rfl) (by kernel_rfl) (fun _ _ _ h => h) (Or.inl ⟨by kernel_rfl, ?_⟩) hS6 ?_
              rotate_left
              · intro w _; first | (go_simp; done) | (go_simp; with_reducible rfl)
              refine wpAnyD_take (i := 9) (v := ?_) rfl (by kernel_rfl) (by kernel_rfl) (by kernel_rfl) (by kernel_rfl) (fun _ _ _ h => h) (Or.inl ⟨by kernel_rfl, ?_⟩) hS6 ?_
              rotate_left
              · intro w hw; obtain ⟨⟨⟨s1', s2', s3'⟩, s4', s5', s6'⟩, z1', z2', z3'⟩ := hw; first | (go_simp; done) | (go_simp; with_reducible rfl)
              refine wpAnyD_take (i := 10) (v := ?_) rfl (by kernel_rfl) (by kernel_rfl) (by kernel_rfl) (by kernel_rfl) (fun _ _ _ h => h) (Or.inl ⟨by kernel_rfl, ?_⟩) hS6 ?_
              rotate_left
              · intro w _; first | (go_simp; done) | (go_simp; with_reducible rfl)
              refine wpAnyD_take (i := 11) (v := ?_) rfl (by kernel_rfl) (by kernel_rfl) (by kernel_rfl) (by kernel_rfl) (fun _ _ _ h => h) (Or.inl ⟨by kernel_rfl, ?_⟩) hS6 ?_
              rotate_left
              · intro w hw; obtain ⟨⟨⟨s1', s2', s3'⟩, s4', s5', s6'⟩, z1', z2', z3'⟩ := hw; first | (go_simp; done) | (go_simp; with_reducible rfl)
              refine wpAnyD_one (i := 12) (by kernel_rfl) rfl (fun KK hKK => ?_)
              go_simp
              go_at_call 51
              refine (rorder_any ((e1 : Int), (e2 : Int), (e3 : Int)) (x, y, z) _).mono ?_; rw [hG2.out]; rintro e w7 ⟨rfl, hb7⟩
              have hS7 := And.intro (H6.next hS6.1 hb7) (H3.next hS6.2 hb7)
              refine hKK _ _ ⟨fun _ => hS7, ?_⟩; clear hKK KK
              refine wpAnyD_take (i := 13) (v := ?_) rfl (by kernel_rfl) (by kernel_rfl) (by kernel_rfl) (by kernel_rfl) (fun _ _ _ h => h) (Or.inl ⟨by kernel_rfl, ?_⟩) hS7 ?_
              rotate_left
              · intro w _; first | (go_simp; done) | (go_simp; with_reducible rfl)
              refine wpAnyD_take (i := 14) (v := ?_) rfl (by kernel_rfl) (by kernel_rfl) (by kernel_rfl) (by kernel_rfl) (fun _ _ _ h => h) (Or.inl ⟨by rfl, ?_⟩) hS7 ?_
              rotate_left
              · intro w _; first | (go_simp; done) | (go_simp; with_reducible rfl)
              refine wpAnyD_done (by kernel_rfl) ?_ _
              go_simp
              have hdd7 : Below w7.heap.size w7 w7.drew := (Below.refl _ _).drew
              have hb7d := below_chain hb7 hdd7
              have HB8 := hid (HG6.out.next hb7d)
              have hS8 := HB8.out.h6
              have hr8 := hr6.next hb7d
              have hown8 := hown6d.next hb7d
              have hbel8 := below_chain hbel6 hb7d
              have hbs8 := Nat.le_trans hbs6 hb7d.size
              obtain ⟨a8, c8, hs8, hp8⟩ := cut_from Hpol0.out (k := i) (by omega)
              have Hp8 := hid hp8
              clear hp8
              clear hP6 hr6 hrq6 hown6d hbel6 hS6 hS7 hb7d hdd7 hbs6
              go_wp2_with fail
              refine wp_region_D (fun w' => H6 G 0 x y z s xo xn xc yo yn yc w') [7, 8] (by kernel_rfl) ?_
              obtain ⟨wd, hwd⟩ : ∃ W, w7.drew = W := ⟨_, rfl⟩
              rw [hwd] at HB8 hS8 hr8 hown8 hbel8 hbs8 ⊢
              clear hwd
              refine wpAnyD_take (i := 0) (v := ?_) rfl (by kernel_rfl) (by kernel_rfl) (by kernel_rfl) (by kernel_rfl) (fun _ _ _ h => h) (Or.inl ⟨by rfl, ?_⟩) hS8 ?_
              rotate_left
              · intro w _; first | (go_simp; done) | (go_simp; with_reducible rfl)
              refine wpAnyD_take (i := 1) (v := ?_) rfl (by kernel_rfl) (by kernel_rfl) (by kernel_rfl) (by kernel_rfl) (fun _ _ _ h => h) (Or.inl ⟨by rfl, ?_⟩) hS8 ?_
              rotate_left
              · intro w hw; obtain ⟨⟨s1', s2', s3'⟩, s4', s5', s6'⟩ := hw; first | (go_simp; done) | (go_simp; with_reducible rfl)
              refine wpAnyD_take (i := 4) (v := ?_) rfl (by kernel_rfl) (by kernel_rfl) (by kernel_rfl) (by kernel_rfl) (fun _ _ _ h => h) (Or.inl ⟨by rfl, ?_⟩) hS8 ?_
              rotate_left
              · intro w _; first | (go_simp; done) | (go_simp; with_reducible rfl)
              refine wpAnyD_take (i := 5) (v := ?_) rfl (by kernel_rfl) (by kernel_rfl) (by kernel_rfl) (by kernel_rfl) (fun _ _ _ h => h) (Or.inl ⟨by rfl, ?_⟩) hS8 ?_
              rotate_left
              · intro w _; first | (go_simp; done) | (go_simp; with_reducible rfl)
              refine wpAnyD_take (i := 6) (v := ?_) rfl (by kernel_rfl) (by kernel_rfl) (by kernel_rfl) (by kernel_rfl) (fun _ _ _ h => h) (Or.inl ⟨by rfl, ?_⟩) hS8 ?_
              rotate_left
              · intro w _; first | (go_simp; done) | (go_simp; with_reducible rfl)
              refine wpAnyD_one (i := 2) (by kernel_rfl) rfl (fun KK hKK => ?_)
              have hbN : Below wd.heap.size wd (wd.alloc (.cells #[.int .i64 x, .int .i64 y, .int .i64 z, .bool s, .slice xo xn xc, .slice yo yn yc] 59)) := below_alloc _
              have hX9 := Hex.fresh wd ((x, y, z), s, (xo, xn, xc), (yo, yn, yc)) 59
              have hown9 := hown8.next hbN
              have hr9 := hr8.next hbN
              have hB9 := HB8.out.next hbN
              have hbel9 := below_chain hbel8 hbN
              have hbs9 : base6 ≤ (wd.alloc (.cells #[.int .i64 x, .int .i64 y, .int .i64 z, .bool s, .slice xo xn xc, .slice yo yn yc] 59)).heap.size := Nat.le_trans hbs8 (by rw [World.size_alloc]; omega)
              go_simp
              refine hKK _ _ ⟨fun _ => hB9.h6, ?_⟩; clear hKK KK
              refine wpAnyD_one (i := 3) (by kernel_rfl) rfl (fun KK hKK => ?_)
              rw [if_pos (by rfl)]
              refine op_appP (.tmp 54) (.tmp 56) rfl base6 v6 i ys rfl hown9 wd.heap.size 0 1 1 rfl [(((x, y, z), s, (xo, xn, xc), (yo, yn, yc)), q)] rfl (by decide) (hex_one hX9) (fun p hp => by obtain rfl := List.mem_singleton.1 hp; exact hr9) (by omega) (by decide) hbs9 ?_
              intro v10 w10 hown10 hg10 hb10 _
              have hB10 := hB9.under hb10 hGb
              have hbel10 := hbel9.trans (hb10.mono hbw6)
              have hp10 := Pol.nextC Hp8.out hbel10
              refine hKK _ _ ⟨fun _ => hB10.h6, ?_⟩; clear hKK KK
              refine wpAnyD_one (i := 7) (by kernel_rfl) rfl (fun KK hKK => ?_)
              rw [if_pos (by rfl)]
              refine op_appPol (.tmp 57) (.tmp 60) rfl base6 v10 (i + 1) _ rfl hown10 a8 (n - i) c8 _ rfl hp10 (by omega) (by omega) (Nat.le_trans hbs9 hb10.size) ?_
              intro v11 w11 zs hz11 hown11 hg11 hb11 _
              have hbel11 := hbel10.trans (hb11.mono hbw6)
              refine hKK _ _ ⟨fun hn => absurd (by simp) hn, ?_⟩; clear hKK KK
              refine wpAnyD_one (i := 8) (by kernel_rfl) rfl (fun KK hKK => ?_)
              go_simp
              refine hKK _ _ ⟨fun hn => absurd (by simp) hn, ?_⟩; clear hKK KK
              refine wpAnyD_done (by kernel_rfl) ?_ _
              go_simp
              have hfin := hid (show rdP (ys ++ [(((x, y, z), s, (xo, xn, xc), (yo, yn, yc)), q)] ++ zs) = (lst (putQ2 P (x, y, z) q)).map toM from by rw [rdP_append, rdP_append, hz11, hy6.out, put_less hOk.out hQ.out hpast.out hM.out hgE.out hsm.out]; rfl)
              obtain ⟨ro, rc, rfl, hres⟩ := hown11.polC hfin.out
              clear hown8 hown9 hown10 hown11 hp10 hr8 hr9 hB9 hB10 hS8 hX9
              go_wp2_with fail
              go_ret
              exact ⟨ro, rc, rfl, hres, hbel11⟩
        · obtain rfl : i = n := by omega
          have hdd : Below wr.heap.size wr wr.drew := (Below.refl _ _).drew
          have hSS := H3.next hGr.h6.1 hdd
          have hP5 := Pol.nextC hPr hdd
          have hr5 := hrr.next hdd
          have HG5 := hid (hGr.next hdd)
          have hbel5 := below_chain hbel hdd
          clear hPr hrr hGr hbel hdd
          go_wp2_with fail
          refine wp_region_D (fun w' => H3 G 0 x y z w') [] (by kernel_rfl) ?_
          obtain ⟨w5, hw5⟩ : ∃ W, wr.drew = W := ⟨_, rfl⟩
          rw [hw5] at hSS hP5 hr5 HG5 hbel5 ⊢
          clear hw5
          refine wpAnyD_take (i := 0) (v := ?_) rfl (by kernel_rfl) (by kernel_rfl) (by kernel_rfl) (by kernel_rfl) (fun _ _ _ h => h) (Or.inl ⟨by rfl, ?_⟩) hSS ?_
          rotate_left
          · intro w _; first | (go_simp; done) | (go_simp; with_reducible rfl)
          refine wpAnyD_take (i := 1) (v := ?_) rfl (by kernel_rfl) (by kernel_rfl) (by kernel_rfl) (by kernel_rfl) (fun _ _ _ h => h) (Or.inl ⟨by rfl, ?_⟩) hSS ?_
          rotate_left
          · intro w _; first | (go_simp; done) | (go_simp; with_reducible rfl)
          refine wpAnyD_take (i := 2) (v := ?_) rfl (by kernel_rfl) (by kernel_rfl) (by kernel_rfl) (by kernel_rfl) (fun _ _ _ h => h) (Or.inl ⟨by rfl, ?_⟩) hSS ?_
          rotate_left
          · intro w _; first | (go_simp; done) | (go_simp; with_reducible rfl)
          refine wpAnyD_take (i := 3) (v := ?_) rfl (by kernel_rfl) (by kernel_rfl) (by kernel_rfl) (by kernel_rfl) (fun _ _ _ h => h) (Or.inl ⟨by rfl, ?_⟩) hSS ?_
          rotate_left
          · intro w _; first | (go_simp; done) | (go_simp; with_reducible rfl)
          refine wpAnyD_take (i := 4) (v := ?_) rfl (by kernel_rfl) (by kernel_rfl) (by kernel_rfl) (by kernel_rfl) (fun _ _ _ h => h) (Or.inl ⟨by rfl, ?_⟩) hSS ?_
          rotate_left
          · intro w _; first | (go_simp; done) | (go_simp; with_reducible rfl)
          refine wpAnyD_take (i := 5) (v := undef) rfl (by kernel_rfl) (by kernel_rfl) (by kernel_rfl) (by kernel_rfl) (fun _ _ _ h => h) (Or.inr ⟨by kernel_rfl, rfl⟩) hSS ?_
          refine wpAnyD_take (i := 6) (v := undef) rfl (by kernel_rfl) (by kernel_rfl) (by kernel_rfl) (by kernel_rfl) (fun _ _ _ h => h) (Or.inr ⟨by kernel_rfl, rfl⟩) hSS ?_
          refine wpAnyD_take (i := 7) (v := undef) rfl (by kernel_rfl) (by kernel_rfl) (by kernel_rfl) (by kernel_rfl) (fun _ _ _ h => h) (Or.inr ⟨by kernel_rfl, rfl⟩) hSS ?_
          refine wpAnyD_take (i := 8) (v := undef) rfl (by kernel_rfl) (by kernel_rfl) (by kernel_rfl) (by kernel_rfl) (fun _ _ _ h => h) (Or.inr ⟨by kernel_rfl, rfl⟩) hSS ?_
          refine wpAnyD_take (i := 9) (v := undef) rfl (by kernel_rfl) (by kernel_rfl) (by kernel_rfl) (by kernel_rfl) (fun _ _ _ h => h) (Or.inr ⟨by kernel_rfl, rfl⟩) hSS ?_
          refine wpAnyD_take (i := 10) (v := undef) rfl (by kernel_rfl) (by kernel_rfl) (by kernel_rfl) (by kernel_rfl) (fun _ _ _ h => h) (Or.inr ⟨by kernel_rfl, rfl⟩) hSS ?_
          refine wpAnyD_take (i := 11) (v := undef) rfl (by kernel_rfl) (by kernel_rfl) (by kernel_rfl) (by kernel_rfl) (fun _ _ _ h => h) (Or.inr ⟨by kernel_rfl, rfl⟩) hSS ?_
          refine wpAnyD_take (i := 12) (v := undef) rfl (by kernel_rfl) (by kernel_rfl) (by kernel_rfl) (by kernel_rfl) (fun _ _ _ h => h) (Or.inr ⟨by kernel_rfl, rfl⟩) hSS ?_
          refine wpAnyD_take (i := 13) (v := undef) rfl (by kernel_rfl) (by kernel_rfl) (by kernel_rfl) (by kernel_rfl) (fun _ _ _ h => h) (Or.inr ⟨by kernel_rfl, rfl⟩) hSS ?_
          refine wpAnyD_take (i := 14) (v := ?_) rfl (by kernel_rfl) (by kernel_rfl) (by kernel_rfl) (by kernel_rfl) (fun _ _ _ h => h) (Or.inl ⟨by rfl, ?_⟩) hSS ?_
          rotate_left
          · intro w _; first | (go_simp; done) | (go_simp; with_reducible rfl)
          refine wpAnyD_done (by kernel_rfl) ?_ _
          go_simp
          clear hSS
          obtain ⟨a6, c6, hs6, hp6⟩ := cut_to hP5 (k := i) (by omega)
          go_wp2_with (at_builtin; go_loud (refine wp_appPol rfl (.const (.slice none 0 0)) (.tmp 37) rfl w5.heap.size _ 0 [] rfl (POwn.nil _ _) a6 i c6 _ rfl hp6 (by decide) (by omega) (Nat.le_refl _) ?_))
          intro v6 w6 ys hy hown6 hg6 hb6 _
          clear hs6 hp6 hg6
          obtain ⟨base6, hbase⟩ : ∃ B, w5.heap.size = B := ⟨_, rfl⟩
          rw [hbase] at hown6
          try simp only [Nat.zero_add, List.nil_append] at hown6
          have hbw6 : w.heap.size ≤ base6 := by rw [← hbase]; exact hbel5.size
          have hGb : G < base6 := by rw [← hbase]; exact HG5.out.lt
          have hdd6 : Below w6.heap.size w6 w6.drew := (Below.refl _ _).drew
          have hb6d := below_chain hb6 hdd6
          have hy6 := hid hy
          have hbs6 : base6 ≤ w6.drew.heap.size := by rw [← hbase]; exact hb6d.size
          have HG6 := hid (HG5.out.next hb6d)
          have hS6 := HG6.out.h6.1
          have hP6 := Pol.nextC hP5 hb6d
          have hr6 := hr5.next hb6d
          have hown6d := hown6.next hdd6
          have hbel6 := below_chain hbel5 hb6d
          clear hP5 hr5 hown6 hbel5 hb6 hb6d hdd6 hy hbase
          go_wp2_with fail
          refine wp_region_D (fun w' => H3 G 0 x y z w') [] (by kernel_rfl) ?_
          obtain ⟨w7, hw7⟩ : ∃ W, w6.drew = W := ⟨_, rfl⟩
          rw [hw7] at hS6 hP6 hr6 HG6 hbel6 hbs6 hown6d ⊢
          clear hw7
          refine wpAnyD_take (i := 0) (v := ?_) rfl (by kernel_rfl) (by kernel_rfl) (by kernel_rfl) (by kernel_rfl) (fun _ _ _ h => h) (Or.inl ⟨by rfl, ?_⟩) hS6 ?_
          rotate_left
          · intro w _; first | (go_simp; done) | (go_simp; with_reducible rfl)
          refine wpAnyD_take (i := 1) (v := ?_) rfl (by kernel_rfl) (by kernel_rfl) (by kernel_rfl) (by kernel_rfl) (fun _ _ _ h => h) (Or.inl ⟨by rfl, ?_⟩) hS6 ?_
          rotate_left
          · intro w _; first | (go_simp; done) | (go_simp; with_reducible rfl)
          refine wpAnyD_take (i := 2) (v := ?_) rfl (by kernel_rfl) (by kernel_rfl) (by kernel_rfl) (by kernel_rfl) (fun _ _ _ h => h) (Or.inl ⟨by rfl, ?_⟩) hS6 ?_
          rotate_left
          · intro w _; first | (go_simp; done) | (go_simp; with_reducible rfl)
          refine wpAnyD_take (i := 3) (v := ?_) rfl (by kernel_rfl) (by kernel_rfl) (by kernel_rfl) (by kernel_rfl) (fun _ _ _ h => h) (Or.inl ⟨by rfl, ?_⟩) hS6 ?_
          rotate_left
          · intro w _; first | (go_simp; done) | (go_simp; with_reducible rfl)
          refine wpAnyD_take (i := 4) (v := ?_) rfl (by kernel_rfl) (by kernel_rfl) (by kernel_rfl) (by kernel_rfl) (fun _ _ _ h => h) (Or.inl ⟨by rfl, ?_⟩) hS6 ?_
          rotate_left
          · intro w _; first | (go_simp; done) | (go_simp; with_reducible rfl)
          refine wpAnyD_take (i := 5) (v := undef) rfl (by kernel_rfl) (by kernel_rfl) (by kernel_rfl) (by kernel_rfl) (fun _ _ _ h => h) (Or.inr ⟨by kernel_rfl, rfl⟩) hS6 ?_
          refine wpAnyD_take (i := 6) (v := undef) rfl (by kernel_rfl) (by kernel_rfl) (by kernel_rfl) (by kernel_rfl) (fun _ _ _ h => h) (Or.inr ⟨by kernel_rfl, rfl⟩) hS6 ?_
          refine wpAnyD_take (i := 7) (v := undef) rfl (by kernel_rfl) (by kernel_rfl) (by kernel_rfl) (by kernel_rfl) (fun _ _ _ h => h) (Or.inr ⟨by kernel_rfl, rfl⟩) hS6 ?_
          refine wpAnyD_take (i := 8) (v := undef) rfl (by kernel_rfl) (by kernel_rfl) (by kernel_rfl) (by kernel_rfl) (fun _ _ _ h => h) (Or.inr ⟨by kernel_rfl, rfl⟩) hS6 ?_
          refine wpAnyD_take (i := 9) (v := undef) rfl (by kernel_rfl) (by kernel_rfl) (by kernel_rfl) (by kernel_rfl) (fun _ _ _ h => h) (Or.inr ⟨by kernel_rfl, rfl⟩) hS6 ?_
          refine wpAnyD_take (i := 10) (v := undef) rfl (by kernel_rfl) (by kernel_rfl) (by kernel_rfl) (by kernel_rfl) (fun _ _ _ h => h) (Or.inr ⟨by kernel_rfl, rfl⟩) hS6 ?_
          refine wpAnyD_take (i := 11) (v := undef) rfl (by kernel_rfl) (by kernel_rfl) (by kernel_rfl) (by kernel_rfl) (fun _ _ _ h => h) (Or.inr ⟨by kernel_rfl, rfl⟩) hS6 ?_
          refine wpAnyD_take (i := 12) (v := undef) rfl (by kernel_rfl) (by kernel_rfl) (by kernel_rfl) (by kernel_rfl) (fun _ _ _ h => h) (Or.inr ⟨by kernel_rfl, rfl⟩) hS6 ?_
          refine wpAnyD_take (i := 13) (v := undef) rfl (by kernel_rfl) (by kernel_rfl) (by kernel_rfl) (by kernel_rfl) (fun _ _ _ h => h) (Or.inr ⟨by kernel_rfl, rfl⟩) hS6 ?_
          refine wpAnyD_take (i := 14) (v := ?_) rfl (by kernel_rfl) (by kernel_rfl) (by kernel_rfl) (by kernel_rfl) (fun _ _ _ h => h) (Or.inl ⟨by rfl, ?_⟩) hS6 ?_
          rotate_left
          · intro w _; first | (go_simp; done) | (go_simp; with_reducible rfl)
          refine wpAnyD_done (by kernel_rfl) ?_ _
          go_simp
          have hdd7 : Below w7.heap.size w7 w7.drew := (Below.refl _ _).drew
          have HB8 := hid (HG6.out.next hdd7)
          have hS8 := HB8.out.h6
          have hr8 := hr6.next hdd7
          have hown8 := hown6d.next hdd7
          have hbel8 := below_chain hbel6 hdd7
          have hbs8 := Nat.le_trans hbs6 hdd7.size
          obtain ⟨a8, c8, hs8, hp8⟩ := cut_from Hpol0.out (k := i) (by omega)
          rw [Nat.sub_self] at hp8
          simp only [Nat.sub_self] at hs8
          have Hp8 := hid hp8
          clear hp8
          clear hP6 hr6 hown6d hbel6 hS6 hdd7 hbs6
          go_wp2_with fail
          refine wp_region_D (fun w' => H6 G 0 x y z s xo xn xc yo yn yc w') [7, 8] (by kernel_rfl) ?_
          obtain ⟨wd, hwd⟩ : ∃ W, w7.drew = W := ⟨_, rfl⟩
          rw [hwd] at HB8 hS8 hr8 hown8 hbel8 hbs8 ⊢
          clear hwd
          refine wpAnyD_take (i := 0) (v := ?_) rfl (by kernel_rfl) (by kernel_rfl) (by kernel_rfl) (by kernel_rfl) (fun _ _ _ h => h) (Or.inl ⟨by rfl, ?_⟩) hS8 ?_
          rotate_left
          · intro w _; first | (go_simp; done) | (go_simp; with_reducible rfl)
          refine wpAnyD_take (i := 1) (v := ?_) rfl (by kernel_rfl) (by kernel_rfl) (by kernel_rfl) (by kernel_rfl) (fun _ _ _ h => h) (Or.inl ⟨by rfl, ?_⟩) hS8 ?_
          rotate_left
          · intro w hw; obtain ⟨⟨s1', s2', s3'⟩, s4', s5', s6'⟩ := hw; first | (go_simp; done) | (go_simp; with_reducible rfl)
          refine wpAnyD_take (i := 4) (v := ?_) rfl (by kernel_rfl) (by kernel_rfl) (by kernel_rfl) (by kernel_rfl) (fun _ _ _ h => h) (Or.inl ⟨by rfl, ?_⟩) hS8 ?_
          rotate_left
          · intro w _; first | (go_simp; done) | (go_simp; with_reducible rfl)
          refine wpAnyD_take (i := 5) (v := ?_) rfl (by kernel_rfl) (by kernel_rfl) (by kernel_rfl) (by kernel_rfl) (fun _ _ _ h => h) (Or.inl ⟨by rfl, ?_⟩) hS8 ?_
          rotate_left
          · intro w _; first | (go_simp; done) | (go_simp; with_reducible rfl)
          refine wpAnyD_take (i := 6) (v := ?_) rfl (by kernel_rfl) (by kernel_rfl) (by kernel_rfl) (by kernel_rfl) (fun _ _ _ h => h) (Or.inl ⟨by rfl, ?_⟩) hS8 ?_
          rotate_left
          · intro w _; first | (go_simp; done) | (go_simp; with_reducible rfl)
          refine wpAnyD_one (i := 2) (by kernel_rfl) rfl (fun KK hKK => ?_)
          have hbN : Below wd.heap.size wd (wd.alloc (.cells #[.int .i64 x, .int .i64 y, .int .i64 z, .bool s, .slice xo xn xc, .slice yo yn yc] 59)) := below_alloc _
          have hX9 := Hex.fresh wd ((x, y, z), s, (xo, xn, xc), (yo, yn, yc)) 59
          have hown9 := hown8.next hbN
          have hr9 := hr8.next hbN
          have hB9 := HB8.out.next hbN
          have hbel9 := below_chain hbel8 hbN
          have hbs9 : base6 ≤ (wd.alloc (.cells #[.int .i64 x, .int .i64 y, .int .i64 z, .bool s, .slice xo xn xc, .slice yo yn yc] 59)).heap.size := Nat.le_trans hbs8 (by rw [World.size_alloc]; omega)
          go_simp
          refine hKK _ _ ⟨fun _ => hB9.h6, ?_⟩; clear hKK KK
          refine wpAnyD_one (i := 3) (by kernel_rfl) rfl (fun KK hKK => ?_)
          rw [if_pos (by rfl)]
          refine op_appP (.tmp 54) (.tmp 56) rfl base6 v6 i ys rfl hown9 wd.heap.size 0 1 1 rfl [(((x, y, z), s, (xo, xn, xc), (yo, yn, yc)), q)] rfl (by decide) (hex_one hX9) (fun p hp => by obtain rfl := List.mem_singleton.1 hp; exact hr9) (by omega) (by decide) hbs9 ?_
          intro v10 w10 hown10 hg10 hb10 _
          have hB10 := hB9.under hb10 hGb
          have hbel10 := hbel9.trans (hb10.mono hbw6)
          have hp10 := Pol.nextC Hp8.out hbel10
          refine hKK _ _ ⟨fun _ => hB10.h6, ?_⟩; clear hKK KK
          refine wpAnyD_one (i := 7) (by kernel_rfl) rfl (fun KK hKK => ?_)
          rw [if_pos (by rfl)]
          refine op_appPol (.tmp 57) (.tmp 60) rfl base6 v10 (i + 1) _ rfl hown10 a8 0 c8 _ rfl hp10 (by omega) (by omega) (Nat.le_trans hbs9 hb10.size) ?_
          intro v11 w11 zs hz11 hown11 hg11 hb11 _
          have hbel11 := hbel10.trans (hb11.mono hbw6)
          refine hKK _ _ ⟨fun hn => absurd (by simp) hn, ?_⟩; clear hKK KK
          refine wpAnyD_one (i := 8) (by kernel_rfl) rfl (fun KK hKK => ?_)
          go_simp
          refine hKK _ _ ⟨fun hn => absurd (by simp) hn, ?_⟩; clear hKK KK
          refine wpAnyD_done (by kernel_rfl) ?_ _
          go_simp
          have hfin := hid (show rdP (ys ++ [(((x, y, z), s, (xo, xn, xc), (yo, yn, yc)), q)] ++ zs) = (lst (putQ2 P (x, y, z) q)).map toM from by rw [rdP_append, rdP_append, hz11, hy6.out, put_end hOk.out hQ.out hpast.out Hn.out.symm]; rfl)
          obtain ⟨ro, rc, rfl, hres⟩ := hown11.polC hfin.out
          clear hown8 hown9 hown10 hown11 hp10 hr8 hr9 hB9 hB10 hS8 hX9
          go_wp2_with fail
          go_ret
          exact ⟨ro, rc, rfl, hres, hbel11⟩
end Go.Proofs.YtgohfieleckmgaaGreatDoor
