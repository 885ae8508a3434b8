/-
  The contract of Mul of package polynomial. No condition but sizes.
-/
import Derived.Test.YtgohfieleckmgaaGreatDoorPof
namespace Go.Proofs.YtgohfieleckmgaaGreatDoor
open Go.RowKit
set_option linter.unusedSimpArgs false
set_option linter.unusedVariables false

theorem Cl.offB {B o : Nat} {x : Value} {w w' : World} {r : Nat} (h : Cl B o x w) (hr : ∀ o, w.cell? ⟨r, o, none⟩ = none) (hg : w.grownBy w' (some r)) : Cl B o x w' :=
  hg.cell h (fun e => by injection e with e; subst e; have := hr o; rw [show w.cell? ⟨B, o, none⟩ = some x from h] at this; cases this)
theorem H6.offB {B o : Nat} {x y z : Int} {s : Bool} {xo : Option Addr} {xn xc : Nat} {yo : Option Addr} {yn yc : Nat} {w w' : World} {r : Nat} (h : H6 B o x y z s xo xn xc yo yn yc w) (hr : ∀ o, w.cell? ⟨r, o, none⟩ = none) (hg : w.grownBy w' (some r)) : H6 B o x y z s xo xn xc yo yn yc w' :=
  ⟨⟨Cl.offB h.1.1 hr hg, Cl.offB h.1.2.1 hr hg, Cl.offB h.1.2.2 hr hg⟩, Cl.offB h.2.1 hr hg, Cl.offB h.2.2.1 hr hg, Cl.offB h.2.2.2 hr hg⟩
theorem Bk.put1 {w w' : World} {G : Nat} {x y z : Value} (h : Bk w G x y z w') (x' : Value) : Bk w G x' y z (w'.setCell ⟨G, 0, none⟩ x') := by
  obtain ⟨T, hT⟩ := h.heap
  exact ⟨⟨T, heap_setCell_same w' G 0 _ T x' hT⟩, h.ge, h.bel.setCell (p := ⟨G, 0, none⟩) h.ge _⟩
theorem Bk.put2 {w w' : World} {G : Nat} {x y z : Value} (h : Bk w G x y z w') (x' : Value) : Bk w G x x' z (w'.setCell ⟨G, 1, none⟩ x') := by
  obtain ⟨T, hT⟩ := h.heap
  exact ⟨⟨T, heap_setCell_same w' G 1 _ T x' hT⟩, h.ge, h.bel.setCell (p := ⟨G, 1, none⟩) h.ge _⟩
theorem Bk.put3 {w w' : World} {G : Nat} {x y z : Value} (h : Bk w G x y z w') (x' : Value) : Bk w G x y x' (w'.setCell ⟨G, 2, none⟩ x') := by
  obtain ⟨T, hT⟩ := h.heap
  exact ⟨⟨T, heap_setCell_same w' G 2 _ T x' hT⟩, h.ge, h.bel.setCell (p := ⟨G, 2, none⟩) h.ge _⟩
/-- The element i of a polynomial's list that is read, its parts one by one. -/
theorem Pol.atM {w : World} {ao : Option Addr} {n cap : Nat} {L : List Mn} (h : Pol RatC w ao n cap (L.map toM)) {i : Nat} (hi : i < n) :
    ∃ b o e1 e2 e3 q s xo xn xc yo yn yc, L[i]? = some ((e1, e2, e3), q) ∧ ao = some ⟨b, o, none⟩ ∧ H6 b (o + i * 6) (e1 : Int) (e2 : Int) (e3 : Int) s xo xn xc yo yn yc w ∧ RatC w (.agg #[.bool s, .slice xo xn xc, .slice yo yn yc]) q := by
  obtain ⟨b, o, x, y, z, s, xo, xn, xc, yo, yn, yc, q, hm, ea, hx, hr⟩ := h.at_ hi
  rw [List.getElem?_map] at hm
  obtain ⟨⟨⟨e1, e2, e3⟩, q'⟩, hge, he⟩ := Option.map_eq_some_iff.1 hm
  simp only [toM, exI, Prod.mk.injEq] at he
  obtain ⟨⟨rfl, rfl, rfl⟩, rfl⟩ := he
  exact ⟨b, o, e1, e2, e3, q', s, xo, xn, xc, yo, yn, yc, hge, ea, hx.h6, hr⟩

set_option maxRecDepth 10000 in
set_option maxHeartbeats 8000000 in
theorem pMul_any (P Q : Pl) (v v2 : Value) (w : World) (h : PolV w v P) (h' : PolV w v2 Q) (k l c : Nat) (hP : FitP k P) (hQ : FitP l Q) (hc : (lst P).length ≤ c ∨ (lst Q).length ≤ c) (hk : c * (k + l + 1) + k + l + 2 ≤ 4294967296) : Calls Tryz.prog 19 #[v, v2] w (PolOut w (mulP P Q)) := by
  obtain ⟨_, _, _, _, rfl, _⟩ := id h
  obtain ⟨_, _, _, _, rfl, _⟩ := id h'
  have hb0 : Below w.heap.size w (w.alloc (.map #[] 0)) := below_alloc _
  have hS : SumW (w.alloc (.map #[] 0)) w.heap.size (0 * (lst Q).length) (mulTo P Q 0 0) := by rw [mulTo_zero, Nat.zero_mul]; exact SumW.made w
  have hval1 := hid (value_any P _ _ (h.next hb0))
  have hval2 := hid (fun W (hb : Below w.heap.size w W) => value_any Q _ _ (h'.next hb))
  obtain ⟨K, hK⟩ : ∃ K, c * (k + l + 1) + k + l + 2 = K := ⟨_, rfl⟩
  have hfit := hid (fun i j => by have := fit_mulTo hP hQ hc i j; rw [hK] at this; exact this)
  have hkK : k + l ≤ K := by rw [← hK]; generalize c * (k + l + 1) = t; omega
  have hPK := hid (hP.mono (show k ≤ K by omega))
  have hQK := hid (hQ.mono (show l ≤ K by omega))
  have hPk := hid hP
  have hQl := hid hQ
  rw [hK] at hk
  have hlP := len_lst P
  have hlQ := len_lst Q
  obtain ⟨n, hn⟩ : ∃ n, (lst P).length = n := ⟨_, rfl⟩
  obtain ⟨m, hm⟩ : ∃ m, (lst Q).length = m := ⟨_, rfl⟩
  have Hn := hid hn
  have Hm := hid hm
  have hfin := hid (fun W (hW : SumW W w.heap.size (n * m) (mulTo P Q n 0)) => slist_any w.heap.size _ K _ W hW (hfit.out n 0) hk (by
    rw [hn] at hlP; rw [hm] at hlQ
    have := Nat.mul_le_mul hlP hlQ
    omega))
  have hend : Hid (EqP (mulTo P Q n 0) (mulP P Q)) := hid (by rw [← hn]; exact mulTo_end P Q)
  have hmm := @run_makeMap Tryz.prog
  rw [hn] at hlP
  rw [hm] at hlQ hS
  clear h h' hn hm hP hQ hc hK
  go_enter Tryz.func19, Tryz.ntmps19
  go_wp2_with fail
  refine hval1.out.mono ?_; rintro e w1 ⟨ao, cap, rfl, hP1, hb1⟩
  rw [Hn.out]
  have hP1' : Pol RatC w1 ao n cap ((lst P).map toM) := by have := hP1; unfold PolC at this; rw [Hn.out] at this; exact this
  have hS1 := hS.kept hb1
  have hbel1 := below_chain hb0 hb1
  clear hP1 hS
  go_wp2_with fail
  go_loopw [16] (fun iv wr => ∃ i : Nat, i ≤ n ∧ iv = .int .i64 i ∧ SumW wr w.heap.size (i * m) (mulTo P Q i 0) ∧ Pol RatC wr ao n cap ((lst P).map toM) ∧ Below w.heap.size w wr) (fun i _ => n - (intOf i).toNat)
  case atStart => exact ⟨0, by omega, rfl, hS1, hP1', hbel1⟩
  case round =>
    clear hS1 hP1' hbel1
    obtain ⟨i, hi, rfl, hSi, hpol, hbel⟩ := hrel
    by_cases hlt : i < n
    · obtain ⟨b, o, m1, m2, m3, qm, s, xo, xn, xc, yo, yn, yc, hgm, rfl, hX, hrm⟩ := hpol.atM hlt
      obtain ⟨⟨x0, x1, x2⟩, x3, x4, x5⟩ := hX
      have hba : Below wr.heap.size wr (wr.alloc (.cells #[.int .i64 m1, .int .i64 m2, .int .i64 m3, .bool s, .slice xo xn xc, .slice yo yn yc] 59)) := below_alloc _
      have hG7 := H6.fresh wr m1 m2 m3 s xo xn xc yo yn yc 59
      have hSa := hSi.kept hba
      have hpa := hpol.nextC hba
      have hrma := hrm.next hba
      have hbela := below_chain hbel hba
      have hv2 := hid (hval2.out _ hbela)
      have Hgm := hid hgm
      obtain ⟨G7, hG7e⟩ : ∃ G, wr.heap.size = G := ⟨_, rfl⟩
      rw [hG7e] at hG7
      have HG7e := hid hG7e
      clear hSi hpol hrm hgm hG7e hbel
      go_wp2_with fail
      refine hv2.out.mono ?_; rintro e w2 ⟨bo, cap', rfl, hQ2, hb2⟩
      rw [Hm.out, HG7e.out]
      have hQ2' : Pol RatC w2 bo m cap' ((lst Q).map toM) := by have := hQ2; unfold PolC at this; rw [Hm.out] at this; exact this
      have hS2 := hSa.kept hb2
      have hp2 := hpa.nextC hb2
      have hr2 := hrma.next hb2
      have hG72 := hG7.next hb2
      have hbel2 := below_chain hbela hb2
      clear hQ2 hSa hpa hrma hG7 hbela x0 x1 x2 x3 x4 x5
      go_wp2_with fail
      go_loopw [23] (fun jv wr => ∃ j : Nat, j ≤ m ∧ jv = .int .i64 j ∧ SumW wr w.heap.size (i * m + j) (mulTo P Q i j) ∧ Pol RatC wr (some ⟨b, o, none⟩) n cap ((lst P).map toM) ∧ Pol RatC wr bo m cap' ((lst Q).map toM) ∧ H6 G7 0 m1 m2 m3 s xo xn xc yo yn yc wr ∧ RatC wr (.agg #[.bool s, .slice xo xn xc, .slice yo yn yc]) qm ∧ Below w.heap.size w wr) (fun j _ => m - (intOf j).toNat)
      case atStart => exact ⟨0, by omega, rfl, hS2, hp2, hQ2', hG72, hr2, hbel2⟩
      case round =>
        clear hS2 hp2 hQ2' hG72 hr2 hbel2
        obtain ⟨j, hj, rfl, hSj, hpP, hpQ, hG7, hrm, hbel⟩ := hrel
        rename World => Wj
        by_cases hjm : j < m
        · obtain ⟨b9, o9, n1, n2, n3, qn, s', xo', xn', xc', yo', yn', yc', hgn, rfl, hX9, hrn⟩ := hpQ.atM hjm
          obtain ⟨⟨x0, x1, x2⟩, x3, x4, x5⟩ := hX9
          obtain ⟨⟨z0, z1, z2⟩, z3, z4, z5⟩ := hG7
          obtain ⟨d1, hd1⟩ : ∃ d, m1 + n1 = d := ⟨_, rfl⟩
          obtain ⟨d2, hd2⟩ : ∃ d, m2 + n2 = d := ⟨_, rfl⟩
          obtain ⟨d3, hd3⟩ : ∃ d, m3 + n3 = d := ⟨_, rfl⟩
          have hmem := lst_at (List.mem_of_getElem? Hgm.out)
          have hmen := lst_at (List.mem_of_getElem? hgn)
          have hbig : Hid (m1 ≤ 5 ∧ m2 ≤ 5 ∧ m3 ≤ 5 ∧ n1 ≤ 5 ∧ n2 ≤ 5 ∧ n3 ≤ 5) := hid (by have h1 := hmem.1; have h2 := hmen.1; unfold deg at h1 h2; simp only at h1 h2; omega)
          have w1' : IntKind.i64.wrap ((m1 : Int) + (n1 : Int)) = (d1 : Int) := by rw [IntKind.wrap_i64]; have := hbig.out; omega
          have w2' : IntKind.i64.wrap ((m2 : Int) + (n2 : Int)) = (d2 : Int) := by rw [IntKind.wrap_i64]; have := hbig.out; omega
          have w3' : IntKind.i64.wrap ((m3 : Int) + (n3 : Int)) = (d3 : Int) := by rw [IntKind.wrap_i64]; have := hbig.out; omega
          have hstep : Hid (mulTo P Q i (j + 1) = addP (mulTo P Q i j) (monoP (d1, d2, d3) (qm * qn))) := hid (by
            rw [mulTo_step Hgm.out hgn, ← hd1, ← hd2, ← hd3]; rfl)
          have hdd : Hid (deg (d1, d2, d3) ≤ 1000000) := hid (by have := hbig.out; unfold deg; simp only; omega)
          have hfm := hid (hPK.out.mem (List.mem_of_getElem? Hgm.out))
          have hfn := hid (hQK.out.mem (List.mem_of_getElem? hgn))
          have hfmn : Hid (Fit K (qm * qn)) := hid ((fit_mul (hPk.out.mem (List.mem_of_getElem? Hgm.out)) (hQl.out.mem (List.mem_of_getElem? hgn))).mono hkK)
          have hba : Below Wj.heap.size Wj (Wj.alloc (.cells #[.int .i64 n1, .int .i64 n2, .int .i64 n3, .bool s', .slice xo' xn' xc', .slice yo' yn' yc'] 59)) := below_alloc _
          have hG9 := hid (H6.fresh Wj n1 n2 n3 s' xo' xn' xc' yo' yn' yc' 59)
          have hSa := hid (hSj.kept hba)
          have hpa := hid (hpP.nextC hba)
          have hqa := hid (hpQ.nextC hba)
          have hG7a := hid (H6.next ⟨⟨z0, z1, z2⟩, z3, z4, z5⟩ hba)
          have hrma := hid (hrm.next hba)
          have hrna := hid (hrn.next hba)
          have hbela := hid (below_chain hbel hba)
          have hBk := Bk.start (w := Wj.alloc (.cells #[.int .i64 n1, .int .i64 n2, .int .i64 n3, .bool s', .slice xo' xn' xc', .slice yo' yn' yc'] 59)) (Below.refl _ _) rfl (.int .i64 m1) (.int .i64 m2) (.int .i64 m3) 57
          obtain ⟨⟨y0, y1, y2⟩, _⟩ := H6.next ⟨⟨z0, z1, z2⟩, z3, z4, z5⟩ hba
          simp only [Nat.zero_add] at y1 y2
          obtain ⟨W2, hW2⟩ : ∃ W2, Wj.alloc (.cells #[.int .i64 n1, .int .i64 n2, .int .i64 n3, .bool s', .slice xo' xn' xc', .slice yo' yn' yc'] 59) = W2 := ⟨_, rfl⟩
          have hsz : W2.heap.size = Wj.heap.size + 1 := by rw [← hW2]; simp
          rw [hW2] at hG9 hSa hpa hqa hG7a hrma hrna hbela hBk
          have HW2 := hid hW2
          have Hsz := hid hsz
          have Hd1 := hid hd1
          have Hd2 := hid hd2
          have Hd3 := hid hd3
          rw [hsz] at hBk
          clear hSj hpP hpQ hrm hrn hgn hmem hmen hW2 hsz hd1 hd2 hd3 hbel hba z0 z1 z2 z3 z4 z5
          go_wp2_with fail
          rw [HW2.out]
          go_loopw [29] (fun kv wx => ∃ k x y z : Int, (k = 0 ∨ k = 1 ∨ k = 2 ∨ k = 3) ∧ kv = .int .i64 k ∧ Hid ((k = 0 → x = m1 ∧ y = m2 ∧ z = m3) ∧ (k = 1 → x = d1 ∧ y = m2 ∧ z = m3) ∧ (k = 2 → x = d1 ∧ y = d2 ∧ z = m3) ∧ (k = 3 → x = d1 ∧ y = d2 ∧ z = d3)) ∧ Bk W2 (Wj.heap.size + 1) (.int .i64 x) (.int .i64 y) (.int .i64 z) wx) (fun i _ => (3 - intOf i).toNat)
          case atStart => exact ⟨0, m1, m2, m3, .inl rfl, rfl, hid ⟨fun _ => ⟨rfl, rfl, rfl⟩, fun h => by omega, fun h => by omega, fun h => by omega⟩, hBk⟩
          case round =>
            clear hBk
            obtain ⟨k, x, y, z, hk3, rfl, Hk, hBk⟩ := hrel
            rcases hk3 with rfl | rfl | rfl | rfl
            · obtain ⟨e1, e2, e3⟩ := Hk.out.1 rfl
              have e1 := e1.symm
              have e2 := e2.symm
              have e3 := e3.symm
              subst e1 e2 e3
              clear Hk
              have hS0 : C3 (Wj.heap.size + 1) (.int .i64 m1) (.int .i64 m2) (.int .i64 m3) wr.drew ∧ H3 Wj.heap.size 0 n1 n2 n3 wr.drew := ⟨hBk.drew.c3, H3.next hG9.out.1 hBk.drew.bel⟩
              have hput := hid (hBk.drew.put1 (.int .i64 d1))
              have hfr := hBk.drew.free 0
              go_wp2_with fail
              refine wp_region_D (fun w' => C3 (Wj.heap.size + 1) (.int .i64 m1) (.int .i64 m2) (.int .i64 m3) w' ∧ H3 Wj.heap.size 0 n1 n2 n3 w') [9] (by kernel_rfl) ?_
              refine wpAnyD_take (i := 0) (v := ?_) rfl (by kernel_rfl) (by kernel_rfl) (by kernel_rfl) (by kernel_rfl) (fun _ _ _ h => h) (Or.inl ⟨by rfl, ?_⟩) hS0 ?_
              rotate_left
              · intro w _; first | (go_simp; done) | (go_simp; with_reducible rfl)
              refine wpAnyD_take (i := 1) (v := ?_) rfl (by kernel_rfl) (by kernel_rfl) (by kernel_rfl) (by kernel_rfl) (fun _ _ _ h => h) (Or.inl ⟨by rfl, ?_⟩) hS0 ?_
              rotate_left
              · intro w _; first | (go_simp; done) | (go_simp; with_reducible rfl)
              refine wpAnyD_take (i := 2) (v := ?_) rfl (by kernel_rfl) (by kernel_rfl) (by kernel_rfl) (by kernel_rfl) (fun _ _ _ h => h) (Or.inl ⟨by rfl, ?_⟩) hS0 ?_
              rotate_left
              · intro w hw; obtain ⟨⟨s1', s2', s3'⟩, s4', s5', s6'⟩ := hw; first | (go_simp; done) | (go_simp; with_reducible rfl)
              refine wpAnyD_take (i := 3) (v := ?_) rfl (by kernel_rfl) (by kernel_rfl) (by kernel_rfl) (by kernel_rfl) (fun _ _ _ h => h) (Or.inl ⟨by rfl, ?_⟩) hS0 ?_
              rotate_left
              · intro w _; first | (go_simp; done) | (go_simp; with_reducible rfl)
              refine wpAnyD_take (i := 4) (v := ?_) rfl (by kernel_rfl) (by kernel_rfl) (by kernel_rfl) (by kernel_rfl) (fun _ _ _ h => h) (Or.inl ⟨by rfl, ?_⟩) hS0 ?_
              rotate_left
              · intro w _; first | (go_simp; done) | (go_simp; with_reducible rfl)
              refine wpAnyD_take (i := 5) (v := ?_) rfl (by kernel_rfl) (by kernel_rfl) (by kernel_rfl) (by kernel_rfl) (fun _ _ _ h => h) (Or.inl ⟨by rfl, ?_⟩) hS0 ?_
              rotate_left
              · intro w _; first | (go_simp; done) | (go_simp; with_reducible rfl)
              refine wpAnyD_take (i := 6) (v := ?_) rfl (by kernel_rfl) (by kernel_rfl) (by kernel_rfl) (by kernel_rfl) (fun _ _ _ h => h) (Or.inl ⟨by rfl, ?_⟩) hS0 ?_
              rotate_left
              · intro w hw; obtain ⟨⟨s1', s2', s3'⟩, s4', s5', s6'⟩ := hw; first | (go_simp; done) | (go_simp; with_reducible rfl)
              refine wpAnyD_take (i := 7) (v := ?_) rfl (by kernel_rfl) (by kernel_rfl) (by kernel_rfl) (by kernel_rfl) (fun _ _ _ h => h) (Or.inl ⟨by rfl, ?_⟩) hS0 ?_
              rotate_left
              · intro w _; first | (go_simp; done) | (go_simp; with_reducible rfl)
              refine wpAnyD_take (i := 8) (v := ?_) rfl (by kernel_rfl) (by kernel_rfl) (by kernel_rfl) (by kernel_rfl) (fun _ _ _ h => h) (Or.inl ⟨by rfl, ?_⟩) hS0 ?_
              rotate_left
              · intro w _; first | (go_simp; done) | (go_simp; with_reducible rfl)
              refine wpAnyD_one (i := 9) (by kernel_rfl) rfl (fun KK hKK => ?_)
              have s1' := hS0.1.1
              have s2' := hS0.1.2.1
              have s3' := hS0.1.2.2
              clear hS0 hBk w1' w2' w3' y0 y1 y2 x0 x1 x2 x3 x4 x5
              go_simp
              refine hKK _ _ ⟨fun hn => absurd (by simp) hn, ?_⟩; clear hKK KK
              refine wpAnyD_done (by kernel_rfl) ?_ _
              go_simp
              go_wp2_with fail
              go_roundw
              case rel => exact ⟨1, d1, m2, m3, by omega, by go_num, hid ⟨fun h => by omega, fun _ => ⟨rfl, rfl, rfl⟩, fun h => by omega, fun h => by omega⟩, hput.out⟩
              case measure => simp [intOf]
            · obtain ⟨e1, e2, e3⟩ := Hk.out.2.1 rfl
              have e1 := e1.symm
              have e2 := e2.symm
              have e3 := e3.symm
              subst e1 e2 e3
              clear Hk
              have hS0 : C3 (Wj.heap.size + 1) (.int .i64 d1) (.int .i64 m2) (.int .i64 m3) wr.drew ∧ H3 Wj.heap.size 0 n1 n2 n3 wr.drew := ⟨hBk.drew.c3, H3.next hG9.out.1 hBk.drew.bel⟩
              have hput := hid (hBk.drew.put2 (.int .i64 d2))
              have hfr := hBk.drew.free 1
              go_wp2_with fail
              refine wp_region_D (fun w' => C3 (Wj.heap.size + 1) (.int .i64 d1) (.int .i64 m2) (.int .i64 m3) w' ∧ H3 Wj.heap.size 0 n1 n2 n3 w') [9] (by kernel_rfl) ?_
              refine wpAnyD_take (i := 0) (v := ?_) rfl (by kernel_rfl) (by kernel_rfl) (by kernel_rfl) (by kernel_rfl) (fun _ _ _ h => h) (Or.inl ⟨by rfl, ?_⟩) hS0 ?_
              rotate_left
              · intro w _; first | (go_simp; done) | (go_simp; with_reducible rfl)
              refine wpAnyD_take (i := 1) (v := ?_) rfl (by kernel_rfl) (by kernel_rfl) (by kernel_rfl) (by kernel_rfl) (fun _ _ _ h => h) (Or.inl ⟨by rfl, ?_⟩) hS0 ?_
              rotate_left
              · intro w _; first | (go_simp; done) | (go_simp; with_reducible rfl)
              refine wpAnyD_take (i := 2) (v := ?_) rfl (by kernel_rfl) (by kernel_rfl) (by kernel_rfl) (by kernel_rfl) (fun _ _ _ h => h) (Or.inl ⟨by rfl, ?_⟩) hS0 ?_
              rotate_left
              · intro w hw; obtain ⟨⟨s1', s2', s3'⟩, s4', s5', s6'⟩ := hw; first | (go_simp; done) | (go_simp; with_reducible rfl)
              refine wpAnyD_take (i := 3) (v := ?_) rfl (by kernel_rfl) (by kernel_rfl) (by kernel_rfl) (by kernel_rfl) (fun _ _ _ h => h) (Or.inl ⟨by rfl, ?_⟩) hS0 ?_
              rotate_left
              · intro w _; first | (go_simp; done) | (go_simp; with_reducible rfl)
              refine wpAnyD_take (i := 4) (v := ?_) rfl (by kernel_rfl) (by kernel_rfl) (by kernel_rfl) (by kernel_rfl) (fun _ _ _ h => h) (Or.inl ⟨by rfl, ?_⟩) hS0 ?_
              rotate_left
              · intro w _; first | (go_simp; done) | (go_simp; with_reducible rfl)
              refine wpAnyD_take (i := 5) (v := ?_) rfl (by kernel_rfl) (by kernel_rfl) (by kernel_rfl) (by kernel_rfl) (fun _ _ _ h => h) (Or.inl ⟨by rfl, ?_⟩) hS0 ?_
              rotate_left
              · intro w _; first | (go_simp; done) | (go_simp; with_reducible rfl)
              refine wpAnyD_take (i := 6) (v := ?_) rfl (by kernel_rfl) (by kernel_rfl) (by kernel_rfl) (by kernel_rfl) (fun _ _ _ h => h) (Or.inl ⟨by rfl, ?_⟩) hS0 ?_
              rotate_left
              · intro w hw; obtain ⟨⟨s1', s2', s3'⟩, s4', s5', s6'⟩ := hw; first | (go_simp; done) | (go_simp; with_reducible rfl)
              refine wpAnyD_take (i := 7) (v := ?_) rfl (by kernel_rfl) (by kernel_rfl) (by kernel_rfl) (by kernel_rfl) (fun _ _ _ h => h) (Or.inl ⟨by rfl, ?_⟩) hS0 ?_
              rotate_left
              · intro w _; first | (go_simp; done) | (go_simp; with_reducible rfl)
              refine wpAnyD_take (i := 8) (v := ?_) rfl (by kernel_rfl) (by kernel_rfl) (by kernel_rfl) (by kernel_rfl) (fun _ _ _ h => h) (Or.inl ⟨by rfl, ?_⟩) hS0 ?_
              rotate_left
              · intro w _; first | (go_simp; done) | (go_simp; with_reducible rfl)
              refine wpAnyD_one (i := 9) (by kernel_rfl) rfl (fun KK hKK => ?_)
              have s1' := hS0.1.1
              have s2' := hS0.1.2.1
              have s3' := hS0.1.2.2
              clear hS0 hBk w1' w2' w3' y0 y1 y2 x0 x1 x2 x3 x4 x5
              go_simp
              refine hKK _ _ ⟨fun hn => absurd (by simp) hn, ?_⟩; clear hKK KK
              refine wpAnyD_done (by kernel_rfl) ?_ _
              go_simp
              go_wp2_with fail
              go_roundw
              case rel => exact ⟨2, d1, d2, m3, by omega, by go_num, hid ⟨fun h => by omega, fun h => by omega, fun _ => ⟨rfl, rfl, rfl⟩, fun h => by omega⟩, hput.out⟩
              case measure => simp [intOf]
            · obtain ⟨e1, e2, e3⟩ := Hk.out.2.2.1 rfl
              have e1 := e1.symm
              have e2 := e2.symm
              have e3 := e3.symm
              subst e1 e2 e3
              clear Hk
              have hS0 : C3 (Wj.heap.size + 1) (.int .i64 d1) (.int .i64 d2) (.int .i64 m3) wr.drew ∧ H3 Wj.heap.size 0 n1 n2 n3 wr.drew := ⟨hBk.drew.c3, H3.next hG9.out.1 hBk.drew.bel⟩
              have hput := hid (hBk.drew.put3 (.int .i64 d3))
              have hfr := hBk.drew.free 2
              go_wp2_with fail
              refine wp_region_D (fun w' => C3 (Wj.heap.size + 1) (.int .i64 d1) (.int .i64 d2) (.int .i64 m3) w' ∧ H3 Wj.heap.size 0 n1 n2 n3 w') [9] (by kernel_rfl) ?_
              refine wpAnyD_take (i := 0) (v := ?_) rfl (by kernel_rfl) (by kernel_rfl) (by kernel_rfl) (by kernel_rfl) (fun _ _ _ h => h) (Or.inl ⟨by rfl, ?_⟩) hS0 ?_
              rotate_left
              · intro w _; first | (go_simp; done) | (go_simp; with_reducible rfl)
              refine wpAnyD_take (i := 1) (v := ?_) rfl (by kernel_rfl) (by kernel_rfl) (by kernel_rfl) (by kernel_rfl) (fun _ _ _ h => h) (Or.inl ⟨by rfl, ?_⟩) hS0 ?_
              rotate_left
              · intro w _; first | (go_simp; done) | (go_simp; with_reducible rfl)
              refine wpAnyD_take (i := 2) (v := ?_) rfl (by kernel_rfl) (by kernel_rfl) (by kernel_rfl) (by kernel_rfl) (fun _ _ _ h => h) (Or.inl ⟨by rfl, ?_⟩) hS0 ?_
              rotate_left
              · intro w hw; obtain ⟨⟨s1', s2', s3'⟩, s4', s5', s6'⟩ := hw; first | (go_simp; done) | (go_simp; with_reducible rfl)
              refine wpAnyD_take (i := 3) (v := ?_) rfl (by kernel_rfl) (by kernel_rfl) (by kernel_rfl) (by kernel_rfl) (fun _ _ _ h => h) (Or.inl ⟨by rfl, ?_⟩) hS0 ?_
              rotate_left
              · intro w _; first | (go_simp; done) | (go_simp; with_reducible rfl)
              refine wpAnyD_take (i := 4) (v := ?_) rfl (by kernel_rfl) (by kernel_rfl) (by kernel_rfl) (by kernel_rfl) (fun _ _ _ h => h) (Or.inl ⟨by rfl, ?_⟩) hS0 ?_
              rotate_left
              · intro w _; first | (go_simp; done) | (go_simp; with_reducible rfl)
              refine wpAnyD_take (i := 5) (v := ?_) rfl (by kernel_rfl) (by kernel_rfl) (by kernel_rfl) (by kernel_rfl) (fun _ _ _ h => h) (Or.inl ⟨by rfl, ?_⟩) hS0 ?_
              rotate_left
              · intro w _; first | (go_simp; done) | (go_simp; with_reducible rfl)
              refine wpAnyD_take (i := 6) (v := ?_) rfl (by kernel_rfl) (by kernel_rfl) (by kernel_rfl) (by kernel_rfl) (fun _ _ _ h => h) (Or.inl ⟨by rfl, ?_⟩) hS0 ?_
              rotate_left
              · intro w hw; obtain ⟨⟨s1', s2', s3'⟩, s4', s5', s6'⟩ := hw; first | (go_simp; done) | (go_simp; with_reducible rfl)
              refine wpAnyD_take (i := 7) (v := ?_) rfl (by kernel_rfl) (by kernel_rfl) (by kernel_rfl) (by kernel_rfl) (fun _ _ _ h => h) (Or.inl ⟨by rfl, ?_⟩) hS0 ?_
              rotate_left
              · intro w _; first | (go_simp; done) | (go_simp; with_reducible rfl)
              refine wpAnyD_take (i := 8) (v := ?_) rfl (by kernel_rfl) (by kernel_rfl) (by kernel_rfl) (by kernel_rfl) (fun _ _ _ h => h) (Or.inl ⟨by rfl, ?_⟩) hS0 ?_
              rotate_left
              · intro w _; first | (go_simp; done) | (go_simp; with_reducible rfl)
              refine wpAnyD_one (i := 9) (by kernel_rfl) rfl (fun KK hKK => ?_)
              have s1' := hS0.1.1
              have s2' := hS0.1.2.1
              have s3' := hS0.1.2.2
              clear hS0 hBk w1' w2' w3' y0 y1 y2 x0 x1 x2 x3 x4 x5
              go_simp
              refine hKK _ _ ⟨fun hn => absurd (by simp) hn, ?_⟩; clear hKK KK
              refine wpAnyD_done (by kernel_rfl) ?_ _
              go_simp
              go_wp2_with fail
              go_roundw
              case rel => exact ⟨3, d1, d2, d3, by omega, by go_num, hid ⟨fun h => by omega, fun h => by omega, fun h => by omega, fun _ => ⟨rfl, rfl, rfl⟩⟩, hput.out⟩
              case measure => simp [intOf]
            · obtain ⟨e1, e2, e3⟩ := Hk.out.2.2.2 rfl
              have e1 := e1.symm
              have e2 := e2.symm
              have e3 := e3.symm
              subst e1 e2 e3
              clear Hk
              have hb3 := hBk.drew.bel
              have hS0 : C3 (Wj.heap.size + 1) (.int .i64 d1) (.int .i64 d2) (.int .i64 d3) wr.drew ∧ H6 G7 0 m1 m2 m3 s xo xn xc yo yn yc wr.drew ∧ H6 Wj.heap.size 0 n1 n2 n3 s' xo' xn' xc' yo' yn' yc' wr.drew := ⟨hBk.drew.c3, hG7a.out.next hb3, hG9.out.next hb3⟩
              have hSx := hSa.out.kept hb3
              have hpx := hpa.out.nextC hb3
              have hqx := hqa.out.nextC hb3
              have hrmx := hrma.out.next hb3
              have hrnx := hrna.out.next hb3
              have hrmV := hrmx.toV hfm.out (by omega)
              have hrnV := hrnx.toV hfn.out (by omega)
              have hbelx := hbela.out.trans (hb3.mono hbela.out.size)
              clear hb3 hBk w1' w2' w3'
              go_wp2_with fail
              refine wp_region_D (fun w' => C3 (Wj.heap.size + 1) (.int .i64 d1) (.int .i64 d2) (.int .i64 d3) w' ∧ H6 G7 0 m1 m2 m3 s xo xn xc yo yn yc w' ∧ H6 Wj.heap.size 0 n1 n2 n3 s' xo' xn' xc' yo' yn' yc' w') [7] (by kernel_rfl) ?_
              refine wpAnyD_take (i := 0) (v := ?_) rfl (by kernel_rfl) (by kernel_rfl) (by kernel_rfl) (by kernel_rfl) (fun _ _ _ h => h) (Or.inl ⟨by rfl, ?_⟩) hS0 ?_
              rotate_left
              · intro w _; first | (go_simp; done) | (go_simp; with_reducible rfl)
              refine wpAnyD_take (i := 1) (v := ?_) rfl (by kernel_rfl) (by kernel_rfl) (by kernel_rfl) (by kernel_rfl) (fun _ _ _ h => h) (Or.inl ⟨by rfl, ?_⟩) hS0 ?_
              rotate_left
              · intro w hw; obtain ⟨⟨s1', s2', s3'⟩, ⟨⟨s4', s5', s6'⟩, s7', s8', s9'⟩, ⟨t4', t5', t6'⟩, t7', t8', t9'⟩ := hw; first | (go_simp; done) | (go_simp; with_reducible rfl)
              refine wpAnyD_take (i := 2) (v := ?_) rfl (by kernel_rfl) (by kernel_rfl) (by kernel_rfl) (by kernel_rfl) (fun _ _ _ h => h) (Or.inl ⟨by rfl, ?_⟩) hS0 ?_
              rotate_left
              · intro w _; first | (go_simp; done) | (go_simp; with_reducible rfl)
              refine wpAnyD_take (i := 3) (v := ?_) rfl (by kernel_rfl) (by kernel_rfl) (by kernel_rfl) (by kernel_rfl) (fun _ _ _ h => h) (Or.inl ⟨by rfl, ?_⟩) hS0 ?_
              rotate_left
              · intro w hw; obtain ⟨⟨s1', s2', s3'⟩, ⟨⟨s4', s5', s6'⟩, s7', s8', s9'⟩, ⟨t4', t5', t6'⟩, t7', t8', t9'⟩ := hw; first | (go_simp; done) | (go_simp; with_reducible rfl)
              refine wpAnyD_take (i := 4) (v := ?_) rfl (by kernel_rfl) (by kernel_rfl) (by kernel_rfl) (by kernel_rfl) (fun _ _ _ h => h) (Or.inl ⟨by rfl, ?_⟩) hS0 ?_
              rotate_left
              · intro w _; first | (go_simp; done) | (go_simp; with_reducible rfl)
              refine wpAnyD_take (i := 5) (v := ?_) rfl (by kernel_rfl) (by kernel_rfl) (by kernel_rfl) (by kernel_rfl) (fun _ _ _ h => h) (Or.inl ⟨by rfl, ?_⟩) hS0 ?_
              rotate_left
              · intro w hw; obtain ⟨⟨s1', s2', s3'⟩, ⟨⟨s4', s5', s6'⟩, s7', s8', s9'⟩, ⟨t4', t5', t6'⟩, t7', t8', t9'⟩ := hw; first | (go_simp; done) | (go_simp; with_reducible rfl)
              refine wpAnyD_one (i := 6) (by kernel_rfl) rfl (fun KK hKK => ?_)
              go_simp
              go_at_call 58
              refine (Mul_any qm qn _ _ _ hrmV hrnV K hfm.out hfn.out hk).mono ?_; rintro e w6 ⟨v6, rfl, hv6, hb6⟩
              obtain ⟨t3, po, pn, pc, qo, qc1, qc, rfl⟩ := hv6.shape6
              have hS6 := And.intro (C3.next hS0.1 hb6) (And.intro (hS0.2.1.next hb6) (hS0.2.2.next hb6))
              have hSy := hSx.kept hb6
              have hpy := hpx.nextC hb6
              have hqy := hqx.nextC hb6
              have hrmy := hrmx.next hb6
              have hG7y := hS6.2.1
              have hbely := below_chain hbelx hb6
              have hnc := hid hSy.nocell
              have hv6V := hv6.toV hfmn.out (by omega)
              have hadd := hid (sadd_any w.heap.size (i * m + j) K _ (d1, d2, d3) t3 po pn pc qo qc1 qc (qm * qn) _ hSy hv6V hdd.out (hfit.out i j) hfmn.out hk (by have := Nat.mul_le_mul hlP hlQ; have := Nat.mul_le_mul_right m (Nat.le_of_lt hlt); omega))
              refine hKK _ _ ⟨fun _ => hS6, ?_⟩; clear hKK KK
              refine wpAnyD_one (i := 7) (by kernel_rfl) rfl (fun KK hKK => ?_)
              go_simp
              go_at_call 54
              refine hadd.out.mono ?_; rintro e w7 ⟨rfl, hS7, hg7⟩
              refine hKK _ _ ⟨fun hn => absurd (by simp) hn, ?_⟩; clear hKK KK
              refine wpAnyD_done (by kernel_rfl) ?_ _
              go_simp
              rw [← hstep.out] at hS7
              have hp7 := hpy.offB hnc.out hg7
              have hq7 := hqy.offB hnc.out hg7
              have hG77 := hG7y.offB hnc.out hg7
              have hrm7 := hrmy.offB hnc.out hg7
              have hbel7 : Below w.heap.size w w7 := hbely.grown hg7 hbely.size (fun k hk => by cases hk; exact Nat.le_refl _)
              clear hSx hpx hqx hrmx hrnx hrmV hrnV hSy hpy hqy hrmy hS0 hS6
              go_wp2_with fail
              go_roundw
              case rel => exact ⟨j + 1, by omega, by go_num, hS7, hp7, hq7, hG77, hrm7, hbel7⟩
              case measure => simp [intOf]; omega
        · obtain rfl : j = m := by omega
          have hSn : SumW Wj w.heap.size ((i + 1) * j) (mulTo P Q (i + 1) 0) := by
            have h1 := mulTo_next (Q := Q) Hgm.out
            rw [Hm.out] at h1
            rw [← h1, Nat.succ_mul]
            exact hSj
          clear hSj hG7 hrm hpQ
          go_wp2_with fail
          go_roundw
          case rel => exact ⟨i + 1, by omega, by go_num, hSn, hpP, hbel⟩
          case measure => simp [intOf]; omega
    · obtain rfl : i = n := by omega
      clear hpol
      go_wp2_with fail
      refine (hfin.out _ hSi).mono ?_; rintro e w5 ⟨ro, rc, rfl, hP5, hb5⟩
      go_wp2_with fail
      go_ret
      have hout : PolOut w _ (.returned (.slice ro _ rc)) w5 := PolOut.old ⟨ro, rc, rfl, hP5, hb5⟩ hbel
      exact hout.congr hend.out
end Go.Proofs.YtgohfieleckmgaaGreatDoor
