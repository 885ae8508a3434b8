/-
  The contracts of value, Constant and Add of package polynomial. No condition but sizes.
-/
import Derived.Test.YtgohfieleckmgaaGreatDoorPlnS
import Derived.Test.YtgohfieleckmgaaGreatDoorPapS
import Derived.Test.YtgohfieleckmgaaGreatDoorPob
import Derived.Test.YtgohfieleckmgaaGreatDoorPlyS
namespace Go.Proofs.YtgohfieleckmgaaGreatDoor
open Go.RowKit
set_option linter.unusedSimpArgs false
set_option linter.unusedVariables false

theorem Pol.canon {w : World} {ao : Option Addr} {n cap : Nat} {l : List Mr} (h : Pol RatV w ao n cap l) (hq : ∀ m ∈ l, m.2 ≠ 0) : Pol RatC w ao n cap l := by
  obtain ⟨h0, h1, h2, h3, h4⟩ := h
  refine ⟨h0, h1, h2, h3, fun i m hm => ?_⟩
  obtain ⟨b, o, e, x, hx, he, hr⟩ := h4 i m hm
  exact ⟨b, o, e, x, hx, he, hr.toC (hq m (List.mem_of_getElem? hm))⟩
/-- What a valid list is. -/
theorem Pol.valid {w : World} {ao : Option Addr} {n cap : Nat} {l : List Mr} {P : Pl} (h : Pol RatV w ao n cap l) (hv : vlB l = true) (hp : EqP (polOf l) P) : (lst P).length = n ∧ PolC w ao cap P := by
  have h1 : (lst P).map toM = l := by rw [← lst_congr hp]; exact polOf_lst hv
  have hl : (lst P).length = n := by have := congrArg List.length h1; rw [List.length_map, h.1] at this; exact this
  refine ⟨hl, ?_⟩
  unfold PolC
  rw [hl, h1]
  refine h.canon fun m hm => ?_
  rw [← h1] at hm
  obtain ⟨x, hx, rfl⟩ := List.mem_map.1 hm
  exact (lst_at hx).2.1
theorem polC_no {w : World} {l : List Mr} {P : Pl} (hv : vlB l = false) (hp : EqP (polOf l) P) : (lst P).length = 0 ∧ PolC w none 0 P := by
  have h1 : lst P = [] := by rw [← lst_congr hp, polOf_no hv, lst_zero]
  refine ⟨by rw [h1]; rfl, ?_⟩
  unfold PolC
  rw [h1]
  exact Pol.nil _ _

theorem value_any (P : Pl) (v : Value) (w : World) (h : PolV w v P) : Calls Tryz.prog 53 #[v] w (PolOut w P) := by
  obtain ⟨ao, n, cap, l, rfl, hl, hp⟩ := h
  have hva := hid (pValid_any ao n cap l w hl)
  cases hv : vlB l with
  | true =>
    rw [hv] at hva
    have hres := hid (fun W (hb : Below w.heap.size w W) => (hl.nextV hb).valid hv hp)
    clear hl hv
    go_enter Tryz.func53, Tryz.ntmps53
    go_wp2_with fail
    refine hva.out.mono ?_; rintro e w1 ⟨rfl, hb1⟩
    go_wp2_with fail
    go_ret
    obtain ⟨h1, h2⟩ := hres.out _ hb1
    exact ⟨ao, cap, by rw [h1]; rfl, h2, hb1⟩
  | false =>
    rw [hv] at hva
    have hres := hid (fun W : World => polC_no (w := W) hv hp)
    clear hl hv
    go_enter Tryz.func53, Tryz.ntmps53
    go_wp2_with fail
    refine hva.out.mono ?_; rintro e w1 ⟨rfl, hb1⟩
    go_wp2_with fail
    go_ret
    obtain ⟨h1, h2⟩ := hres.out w1
    exact ⟨none, 0, by rw [h1]; rfl, h2, hb1⟩

/-- What a sum's list hands back, told from an older world. -/
theorem PolOut.old {w w1 w' : World} {P : Pl} {e : Ending} (h : PolOut w1 P e w') (hb : Below w.heap.size w w1) : PolOut w P e w' := by
  obtain ⟨ao, cap, e1, e2, e3⟩ := h
  exact ⟨ao, cap, e1, e2, below_chain hb e3⟩

set_option maxHeartbeats 1000000 in
theorem pConst_any (q : Rat) (v : Value) (w : World) (h : RatV w v q) (k : Nat) (hq : Fit k q) (hk : k ≤ 4294967296) : Calls Tryz.prog 29 #[v] w (PolOut w (constP q)) := by
  obtain ⟨s, ao, n, cap, bo, m, cap', rfl⟩ := h.shape
  have hb0 : Below w.heap.size w (w.alloc (.cells #[.bool s, .slice ao n cap, .slice bo m cap'] 25)) := below_alloc _
  have hC : C3 w.heap.size (.bool s) (.slice ao n cap) (.slice bo m cap') (w.alloc (.cells #[.bool s, .slice ao n cap, .slice bo m cap'] 25)) := C3.here w _ rfl
  have hS := SumW.made (w.alloc (.cells #[.bool s, .slice ao n cap, .slice bo m cap'] 25))
  have hb1 := below_alloc (w := w.alloc (.cells #[.bool s, .slice ao n cap, .slice bo m cap'] 25)) (.map #[] 0)
  obtain ⟨c0, c1, c2⟩ := hC.next hb1
  have hr := (h.next hb0).next hb1
  have hbel := below_chain hb0 hb1
  have hsz : (w.alloc (.cells #[.bool s, .slice ao n cap, .slice bo m cap'] 25)).heap.size = w.heap.size + 1 := by simp
  rw [hsz] at hS
  have hadd : Calls Tryz.prog 54 #[.map (some (w.heap.size + 1)), .agg #[.int .i64 0, .int .i64 0, .int .i64 0], .agg #[.bool s, .slice ao n cap, .slice bo m cap']] _ _ :=
    sadd_any (w.heap.size + 1) 0 k _ (0, 0, 0) s ao n cap bo m cap' q _ hS hr (by decide) (fitP_zero hq.pos) hq hk (by decide)
  have Hadd := hid hadd
  have hfin := hid (fun W (hW : SumW W (w.heap.size + 1) 1 (addP (fun _ => 0) (monoP (0, 0, 0) q))) => slist_any (w.heap.size + 1) 1 k _ W hW (by rw [zero_addP]; exact fitP_mono _ hq) hk (by decide))
  have hmm := @run_makeMap Tryz.prog
  clear hadd h hC hS hr hsz
  go_enter Tryz.func29, Tryz.ntmps29
  go_wp2_with fail
  refine Hadd.out.mono ?_; rintro e w1 ⟨rfl, hS1, hg1⟩
  have hbel1 : Below w.heap.size w w1 := hbel.grown hg1 hbel.size (fun k hk => by cases hk; omega)
  go_wp2_with fail
  refine (hfin.out _ hS1).mono ?_; rintro e w2 ⟨ro, rc, rfl, hP, hb2⟩
  go_wp2_with fail
  go_ret
  have : PolOut w (addP (fun _ => 0) (monoP (0, 0, 0) q)) (.returned (.slice ro _ rc)) w2 := PolOut.old ⟨ro, rc, rfl, hP, hb2⟩ hbel1
  exact this.congr (by rw [zero_addP]; exact fun e _ => rfl)

set_option maxHeartbeats 2000000 in
theorem pAdd_any (P Q : Pl) (v v2 : Value) (w : World) (h : PolV w v P) (h' : PolV w v2 Q) (k : Nat) (hP : FitP k P) (hQ : FitP k Q) (hk : k ≤ 2000000000) : Calls Tryz.prog 17 #[v, v2] w (PolOut w (addP P Q)) := by
  obtain ⟨_, _, _, _, rfl, _⟩ := id h
  obtain ⟨_, _, _, _, rfl, _⟩ := id h'
  have hb0 : Below w.heap.size w (w.alloc (.map #[] 0)) := below_alloc _
  have hS := SumW.made w
  have hval1 := hid (value_any P _ _ (h.next hb0))
  have hval2 := hid (fun W (hb : Below (w.alloc (.map #[] 0)).heap.size (w.alloc (.map #[] 0)) W) => value_any Q _ _ ((h'.next hb0).next hb))
  have hfin := hid (fun W (hW : SumW W w.heap.size ((lst P).length + (lst Q).length) (cof ((lst P ++ lst Q).take ((lst P).length + (lst Q).length)))) => slist_any w.heap.size _ (k + k + 1) _ W hW (fit_two hP hQ _) (by omega) (by have := len_lst P; have := len_lst Q; omega))
  have hmm := @run_makeMap Tryz.prog
  have hlP := len_lst P
  have hlQ := len_lst Q
  obtain ⟨n, hn⟩ : ∃ n, (lst P).length = n := ⟨_, rfl⟩
  obtain ⟨m, hm⟩ : ∃ m, (lst Q).length = m := ⟨_, rfl⟩
  have Hn := hid hn
  have Hm := hid hm
  rw [hn, hm] at hfin
  rw [hn] at hlP
  rw [hm] at hlQ
  have hHP := hid hP
  have hHQ := hid hQ
  clear h h' hn hm hP hQ
  go_enter Tryz.func17, Tryz.ntmps17
  go_wp2_with fail
  refine hval1.out.mono ?_; rintro e w1 ⟨ao, cap, rfl, hP1, hb1⟩
  rw [Hn.out]
  go_wp2_with fail
  refine (hval2.out _ hb1).mono ?_; rintro e w2 ⟨bo, cap', rfl, hQ2, hb2⟩
  rw [Hm.out]
  have hP2 := hP1.next hb2
  have hbN := below_alloc (w := w2) (.cells #[.slice ao n cap, .slice bo m cap'] 22)
  have hS3 := ((hS.kept hb1).kept hb2).kept hbN
  have hcon := hid (concat_any w2.heap.size ao n cap _ bo m cap' _ _ (by have := Pol.nextC hP2 hbN; rw [Hn.out] at this; exact this) (by have := Pol.nextC hQ2 hbN; rw [Hm.out] at this; exact this) (by simp [go_sem]) (by simp [go_sem]) (by omega) (by omega))
  have hbel3 := below_chain (below_chain (below_chain hb0 hb1) hb2) hbN
  clear hP1 hP2 hQ2 hS
  go_wp2_with fail
  refine hcon.out.mono ?_; rintro e w3 ⟨v3, rfl, ps, hown, hrd, hb3⟩
  have hS4 := hS3.kept hb3
  have hbel4 := below_chain hbel3 hb3
  obtain ⟨co, cc, rfl, hpol⟩ := hown.pol
  rw [hrd, ← List.map_append] at hpol
  have hnm : Hid ((lst P ++ lst Q).length = n + m) := hid (by rw [List.length_append, Hn.out, Hm.out])
  clear hown hrd hS3
  go_wp2_with fail
  go_loopw [16] (fun iv wr => ∃ i : Nat, i ≤ n + m ∧ iv = .int .i64 i ∧ SumW wr w.heap.size i (cof ((lst P ++ lst Q).take i)) ∧ Pol RatC wr co (n + m) cc ((lst P ++ lst Q).map toM) ∧ Below w.heap.size w wr) (fun i _ => n + m - (intOf i).toNat)
  case atStart => exact ⟨0, by omega, rfl, by rw [List.take_zero]; exact hS4, hpol, hbel4⟩
  case round =>
    clear hS4 hpol hbel4
    obtain ⟨i, hi, rfl, hSi, hpol, hbel⟩ := hrel
    by_cases hlt : i < n + m
    · obtain ⟨b, o, x, y, z, s, xo, xn, xc, yo, yn, yc, q, hmm', rfl, hx, hr⟩ := hpol.at_ hlt
      rw [List.getElem?_map] at hmm'
      obtain ⟨⟨⟨e1, e2, e3⟩, q'⟩, hge, he⟩ := Option.map_eq_some_iff.1 hmm'
      simp only [toM, exI, Prod.mk.injEq] at he
      obtain ⟨⟨rfl, rfl, rfl⟩, rfl⟩ := he
      obtain ⟨x0, x1, x2, x3, x4, x5⟩ := hx.cells
      have hmem : ((e1, e2, e3), q') ∈ lst P ∨ ((e1, e2, e3), q') ∈ lst Q := List.mem_append.1 (List.mem_of_getElem? hge)
      have hdq : Hid (deg (e1, e2, e3) ≤ 5 ∧ Fit (k + k + 1) q') := hid (by
        rcases hmem with hmem | hmem
        · exact ⟨(lst_at hmem).1, (hHP.out.mem hmem).mono (by omega)⟩
        · exact ⟨(lst_at hmem).1, (hHQ.out.mem hmem).mono (by omega)⟩)
      have hba : Below wr.heap.size wr (wr.alloc (.cells #[.int .i64 e1, .int .i64 e2, .int .i64 e3, .bool s, .slice xo xn xc, .slice yo yn yc] 59)) := below_alloc _
      have hG := H6.fresh wr e1 e2 e3 s xo xn xc yo yn yc 59
      obtain ⟨⟨y0, y1, y2⟩, y3, y4, y5⟩ := hG
      have hSa := hSi.kept hba
      have hpa := hpol.nextC hba
      have hrV := (hr.next hba).toV hdq.out.2 (by omega)
      have hadd := hid (sadd_any w.heap.size i (k + k + 1) _ (e1, e2, e3) s xo xn xc yo yn yc q' _ hSa hrV (by have := hdq.out.1; omega) (fit_two hHP.out hHQ.out i) hdq.out.2 (by omega) (by omega))
      have hstep := hid (cof_take hge)
      have hbela := below_chain hbel hba
      have hnc := hid hSa.nocell
      clear hx hr hmm' hge hmem hSi hpol hSa hrV
      go_wp2_with fail
      refine hadd.out.mono ?_; rintro e w5 ⟨rfl, hS5, hg5⟩
      have hpol5 := hpa.offB hnc.out hg5
      have hbel5 : Below w.heap.size w w5 := hbela.grown hg5 hbela.size (fun k hk => by cases hk; exact Nat.le_refl _)
      rw [← hstep.out] at hS5
      go_wp2_with fail
      go_roundw
      case rel => exact ⟨i + 1, by omega, by go_num, hS5, hpol5, hbel5⟩
      case measure => simp [intOf]; omega
    · obtain rfl : i = n + m := by omega
      clear hpol
      go_wp2_with fail
      refine (hfin.out _ hSi).mono ?_; rintro e w5 ⟨ro, rc, rfl, hP5, hb5⟩
      go_wp2_with fail
      go_ret
      have hout : PolOut w _ (.returned (.slice ro _ rc)) w5 := PolOut.old ⟨ro, rc, rfl, hP5, hb5⟩ hbel
      exact hout.congr (by rw [List.take_of_length_le (by rw [hnm.out]; exact Nat.le_refl _)]; exact cof_two P Q)
end Go.Proofs.YtgohfieleckmgaaGreatDoor
