/-
  The contract of degree of the statements about layer 2; how an argument of type [3]api.Rat reads. No condition but sizes.
-/
import Derived.Test.YtgohfieleckmgaaGreatDoorPev
import Derived.Test.YtgohfieleckmgaaGreatDoorPlw
namespace Go.Proofs.YtgohfieleckmgaaGreatDoor
open Go.ChangeShapes Go.WideShapes Go.RowKit Go.Deep
set_option linter.unusedSimpArgs false
set_option linter.unusedVariables false

set_option maxRecDepth 100000 in
set_option maxHeartbeats 4000000 in
theorem degP_any (P : Pl) (ao : Option Addr) (n cap : Nat) (w : World) (h : PN w ao n cap P) :
    Calls Tryz.prog 40 #[.slice ao n cap] w fun e w' => (∃ D : Nat, e = .returned (.int .i64 D) ∧ D ≤ 5 ∧ ∀ m ∈ lst P, deg m.1 ≤ D) ∧ Below w.heap.size w w' := by
  have hn := h.1
  have hPol : Pol RatC w ao n cap ((lst P).map toM) := by have := h.2; unfold PolC at this; rw [hn] at this; exact this
  have hnb : n ≤ 56 := by rw [← hn]; exact len_lst P
  have Hn := hid hn
  have HP := hid hPol
  clear h hn hPol
  go_enter Tryz.func40, Tryz.ntmps40
  go_wp2_with fail
  go_loopw [3, 4] (fun dv iv wr => ∃ (i D : Nat), i ≤ n ∧ iv = .int .i64 i ∧ dv = .int .i64 D ∧ D ≤ 5 ∧ Hid (∀ (j : Nat) (m : Mn), j < i → (lst P)[j]? = some m → deg m.1 ≤ D) ∧ Below w.heap.size w wr) (fun _ i _ => n - (intOf i).toNat)
  case atStart => exact ⟨0, 0, by omega, rfl, rfl, by omega, hid (fun j m hj => by omega), Below.refl _ _⟩
  case round =>
    obtain ⟨i, D, hi, rfl, rfl, hD, hall, hbel⟩ := hrel
    by_cases hlt : i < n
    · obtain ⟨b, o, m1, m2, m3, qm, s, xo, xn, xc, yo, yn, yc, hgm, rfl, hX, hrm⟩ := HP.out.atM hlt
      have hmem := (lst_at (List.mem_of_getElem? hgm)).1
      have hdeg : m1 + m2 + m3 ≤ 5 := hmem
      obtain ⟨t, ht⟩ : ∃ t, m1 + m2 = t := ⟨_, rfl⟩
      obtain ⟨u, hu⟩ : ∃ u, t + m3 = u := ⟨_, rfl⟩
      have w1' : IntKind.i64.wrap ((m1 : Int) + (m2 : Int)) = (t : Int) := by rw [IntKind.wrap_i64]; omega
      have w2' : IntKind.i64.wrap ((t : Int) + (m3 : Int)) = (u : Int) := by rw [IntKind.wrap_i64]; omega
      have hu5 : u ≤ 5 := by omega
      have hnx : ∀ E : Nat, D ≤ E → u ≤ E → Hid (∀ (j : Nat) (m : Mn), j < i + 1 → (lst P)[j]? = some m → deg m.1 ≤ E) := fun E h1 h2 => hid (fun j m hj hjm => by
        rcases Nat.lt_succ_iff_lt_or_eq.1 hj with h3 | h3
        · exact Nat.le_trans (hall.out j m h3 hjm) h1
        · subst h3
          rw [hgm] at hjm
          injection hjm with hjm
          subst hjm
          unfold deg
          simp only
          omega)
      have Hnx := hid hnx
      have hdd : Below wr.heap.size wr wr.drew := (Below.refl _ _).drew
      have hS0 := H6.next (H6.next hX hbel) hdd
      have hbd := below_chain hbel hdd
      have i0 : (0 : Int) ≤ (i : Int) := by omega
      have i1 : (i : Int) < (n : Int) := by omega
      clear hgm hX hrm hmem hdeg ht hu hnx
      by_cases hDu : D ≤ u
      · have k1 : (D : Int) ≤ (u : Int) := by omega
        have k2 : ¬ ((u : Int) < (D : Int)) := by omega
        have hmx : max (D : Int) (u : Int) = (u : Int) := by omega
        have hmn : max D u = u := by omega
        go_wp2_with fail
        refine wp_region_D (fun w' => H6 b (o + i * 6) (m1 : Int) (m2 : Int) (m3 : Int) s xo xn xc yo yn yc w') [] (by kernel_rfl) ?_
        refine wpAnyD_take (i := 0) (v := ?_) rfl (by kernel_rfl) (by kernel_rfl) (by kernel_rfl) (by kernel_rfl) (fun _ _ _ h => h) (Or.inl ⟨by rfl, ?_⟩) hS0 ?_
        rotate_left
        · intro w _; first | (go_simp; done) | (go_simp; with_reducible rfl)
        refine wpAnyD_take (i := 1) (v := ?_) rfl (by kernel_rfl) (by kernel_rfl) (by kernel_rfl) (by kernel_rfl) (fun _ _ _ h => h) (Or.inl ⟨by rfl, ?_⟩) hS0 ?_
        rotate_left
        · intro w _; first | (go_simp; done) | (go_simp; with_reducible rfl)
        refine wpAnyD_take (i := 2) (v := ?_) rfl (by kernel_rfl) (by kernel_rfl) (by kernel_rfl) (by kernel_rfl) (fun _ _ _ h => h) (Or.inl ⟨by rfl, ?_⟩) hS0 ?_
        rotate_left
        · intro w _; first | (go_simp; done) | (go_simp; with_reducible rfl)
        refine wpAnyD_take (i := 3) (v := ?_) rfl (by kernel_rfl) (by kernel_rfl) (by kernel_rfl) (by kernel_rfl) (fun _ _ _ h => h) (Or.inl ⟨by rfl, ?_⟩) hS0 ?_
        rotate_left
        · intro w _; first | (go_simp; done) | (go_simp; with_reducible rfl)
        refine wpAnyD_take (i := 4) (v := ?_) rfl (by kernel_rfl) (by kernel_rfl) (by kernel_rfl) (by kernel_rfl) (fun _ _ _ h => h) (Or.inl ⟨by rfl, ?_⟩) hS0 ?_
        rotate_left
        · intro w _; first | (go_simp; done) | (go_simp; with_reducible rfl)
        refine wpAnyD_take (i := 5) (v := ?_) rfl (by kernel_rfl) (by kernel_rfl) (by kernel_rfl) (by kernel_rfl) (fun _ _ _ h => h) (Or.inl ⟨by rfl, ?_⟩) hS0 ?_
        rotate_left
        · intro w _; first | (go_simp; done) | (go_simp; with_reducible rfl)
        refine wpAnyD_take (i := 6) (v := ?_) rfl (by kernel_rfl) (by kernel_rfl) (by kernel_rfl) (by kernel_rfl) (fun _ _ _ h => h) (Or.inl ⟨by rfl, ?_⟩) hS0 ?_
        rotate_left
        · intro w hw; obtain ⟨⟨s1', s2', s3'⟩, s4', s5', s6'⟩ := hw; first | (go_simp; done) | (go_simp; with_reducible rfl)
        refine wpAnyD_take (i := 7) (v := ?_) rfl (by kernel_rfl) (by kernel_rfl) (by kernel_rfl) (by kernel_rfl) (fun _ _ _ h => h) (Or.inl ⟨by rfl, ?_⟩) hS0 ?_
        rotate_left
        · intro w _; first | (go_simp; done) | (go_simp; with_reducible rfl)
        refine wpAnyD_take (i := 8) (v := ?_) rfl (by kernel_rfl) (by kernel_rfl) (by kernel_rfl) (by kernel_rfl) (fun _ _ _ h => h) (Or.inl ⟨by rfl, ?_⟩) hS0 ?_
        rotate_left
        · intro w _; first | (go_simp; done) | (go_simp; with_reducible rfl)
        refine wpAnyD_take (i := 9) (v := ?_) rfl (by kernel_rfl) (by kernel_rfl) (by kernel_rfl) (by kernel_rfl) (fun _ _ _ h => h) (Or.inl ⟨by rfl, ?_⟩) hS0 ?_
        rotate_left
        · intro w _; first | (go_simp; done) | (go_simp; with_reducible rfl)
        refine wpAnyD_take (i := 10) (v := ?_) rfl (by kernel_rfl) (by kernel_rfl) (by kernel_rfl) (by kernel_rfl) (fun _ _ _ h => h) (Or.inl ⟨by rfl, ?_⟩) hS0 ?_
        rotate_left
        · intro w _; first | (go_simp; done) | (go_simp; with_reducible rfl)
        refine wpAnyD_take (i := 11) (v := ?_) rfl (by kernel_rfl) (by kernel_rfl) (by kernel_rfl) (by kernel_rfl) (fun _ _ _ h => h) (Or.inl ⟨by rfl, ?_⟩) hS0 ?_
        rotate_left
        · intro w _; first | (go_simp; done) | (go_simp; with_reducible rfl)
        refine wpAnyD_take (i := 12) (v := ?_) rfl (by kernel_rfl) (by kernel_rfl) (by kernel_rfl) (by kernel_rfl) (fun _ _ _ h => h) (Or.inl ⟨by rfl, ?_⟩) hS0 ?_
        rotate_left
        · intro w hw; obtain ⟨⟨s1', s2', s3'⟩, s4', s5', s6'⟩ := hw; first | (go_simp; done) | (go_simp; with_reducible rfl)
        refine wpAnyD_take (i := 13) (v := ?_) rfl (by kernel_rfl) (by kernel_rfl) (by kernel_rfl) (by kernel_rfl) (fun _ _ _ h => h) (Or.inl ⟨by rfl, ?_⟩) hS0 ?_
        rotate_left
        · intro w _; first | (go_simp; done) | (go_simp; with_reducible rfl)
        refine wpAnyD_take (i := 14) (v := ?_) rfl (by kernel_rfl) (by kernel_rfl) (by kernel_rfl) (by kernel_rfl) (fun _ _ _ h => h) (Or.inl ⟨by rfl, ?_⟩) hS0 ?_
        rotate_left
        · intro w _; first | (go_simp; done) | (go_simp; with_reducible rfl)
        refine wpAnyD_take (i := 15) (v := ?_) rfl (by kernel_rfl) (by kernel_rfl) (by kernel_rfl) (by kernel_rfl) (fun _ _ _ h => h) (Or.inl ⟨by rfl, ?_⟩) hS0 ?_
        rotate_left
        · intro w _; first | (go_simp; done) | (go_simp; with_reducible rfl)
        refine wpAnyD_take (i := 16) (v := ?_) rfl (by kernel_rfl) (by kernel_rfl) (by kernel_rfl) (by kernel_rfl) (fun _ _ _ h => h) (Or.inl ⟨by rfl, ?_⟩) hS0 ?_
        rotate_left
        · intro w _; first | (go_simp; done) | (go_simp; with_reducible rfl)
        refine wpAnyD_take (i := 17) (v := ?_) rfl (by kernel_rfl) (by kernel_rfl) (by kernel_rfl) (by kernel_rfl) (fun _ _ _ h => h) (Or.inl ⟨by rfl, ?_⟩) hS0 ?_
        rotate_left
        · intro w _; first | (go_simp; done) | (go_simp; with_reducible rfl)
        refine wpAnyD_take (i := 18) (v := ?_) rfl (by kernel_rfl) (by kernel_rfl) (by kernel_rfl) (by kernel_rfl) (fun _ _ _ h => h) (Or.inl ⟨by rfl, ?_⟩) hS0 ?_
        rotate_left
        · intro w _; first | (go_simp; done) | (go_simp; with_reducible rfl)
        refine wpAnyD_take (i := 19) (v := ?_) rfl (by kernel_rfl) (by kernel_rfl) (by kernel_rfl) (by kernel_rfl) (fun _ _ _ h => h) (Or.inl ⟨by rfl, ?_⟩) hS0 ?_
        rotate_left
        · intro w hw; obtain ⟨⟨s1', s2', s3'⟩, s4', s5', s6'⟩ := hw; first | (go_simp; done) | (go_simp; with_reducible rfl)
        refine wpAnyD_take (i := 20) (v := ?_) rfl (by kernel_rfl) (by kernel_rfl) (by kernel_rfl) (by kernel_rfl) (fun _ _ _ h => h) (Or.inl ⟨by rfl, ?_⟩) hS0 ?_
        rotate_left
        · intro w _; first | (go_simp; done) | (go_simp; with_reducible rfl)
        refine wpAnyD_one (i := 21) (by kernel_rfl) rfl (fun KK hKK => ?_)
        go_simp
        refine hKK _ _ ⟨fun _ => hS0, ?_⟩; clear hKK KK
        refine wpAnyD_take (i := 22) (v := ?_) rfl (by kernel_rfl) (by kernel_rfl) (by kernel_rfl) (by kernel_rfl) (fun _ _ _ h => h) (Or.inl ⟨by rfl, ?_⟩) hS0 ?_
        rotate_left
        · intro w _; first | (go_simp; done) | (go_simp; with_reducible rfl)
        refine wpAnyD_done (by kernel_rfl) ?_ _
        go_simp
        go_wp2_with fail
        go_roundw
        case rel => exact ⟨i + 1, u, by omega, by go_num, rfl, hu5, Hnx.out u hDu (Nat.le_refl _), hbd⟩
        case measure => simp [intOf]; omega
      · have k1 : ¬ ((D : Int) ≤ (u : Int)) := by omega
        have k2 : (u : Int) < (D : Int) := by omega
        have hmx : max (D : Int) (u : Int) = (D : Int) := by omega
        have hmn : max D u = D := by omega
        go_wp2_with fail
        refine wp_region_D (fun w' => H6 b (o + i * 6) (m1 : Int) (m2 : Int) (m3 : Int) s xo xn xc yo yn yc w') [] (by kernel_rfl) ?_
        refine wpAnyD_take (i := 0) (v := ?_) rfl (by kernel_rfl) (by kernel_rfl) (by kernel_rfl) (by kernel_rfl) (fun _ _ _ h => h) (Or.inl ⟨by rfl, ?_⟩) hS0 ?_
        rotate_left
        · intro w _; first | (go_simp; done) | (go_simp; with_reducible rfl)
        refine wpAnyD_take (i := 1) (v := ?_) rfl (by kernel_rfl) (by kernel_rfl) (by kernel_rfl) (by kernel_rfl) (fun _ _ _ h => h) (Or.inl ⟨by rfl, ?_⟩) hS0 ?_
        rotate_left
        · intro w _; first | (go_simp; done) | (go_simp; with_reducible rfl)
        refine wpAnyD_take (i := 2) (v := ?_) rfl (by kernel_rfl) (by kernel_rfl) (by kernel_rfl) (by kernel_rfl) (fun _ _ _ h => h) (Or.inl ⟨by rfl, ?_⟩) hS0 ?_
        rotate_left
        · intro w _; first | (go_simp; done) | (go_simp; with_reducible rfl)
        refine wpAnyD_take (i := 3) (v := ?_) rfl (by kernel_rfl) (by kernel_rfl) (by kernel_rfl) (by kernel_rfl) (fun _ _ _ h => h) (Or.inl ⟨by rfl, ?_⟩) hS0 ?_
        rotate_left
        · intro w _; first | (go_simp; done) | (go_simp; with_reducible rfl)
        refine wpAnyD_take (i := 4) (v := ?_) rfl (by kernel_rfl) (by kernel_rfl) (by kernel_rfl) (by kernel_rfl) (fun _ _ _ h => h) (Or.inl ⟨by rfl, ?_⟩) hS0 ?_
        rotate_left
        · intro w _; first | (go_simp; done) | (go_simp; with_reducible rfl)
        refine wpAnyD_take (i := 5) (v := ?_) rfl (by kernel_rfl) (by kernel_rfl) (by kernel_rfl) (by kernel_rfl) (fun _ _ _ h => h) (Or.inl ⟨by rfl, ?_⟩) hS0 ?_
        rotate_left
        · intro w _; first | (go_simp; done) | (go_simp; with_reducible rfl)
        refine wpAnyD_take (i := 6) (v := ?_) rfl (by kernel_rfl) (by kernel_rfl) (by kernel_rfl) (by kernel_rfl) (fun _ _ _ h => h) (Or.inl ⟨by rfl, ?_⟩) hS0 ?_
        rotate_left
        · intro w hw; obtain ⟨⟨s1', s2', s3'⟩, s4', s5', s6'⟩ := hw; first | (go_simp; done) | (go_simp; with_reducible rfl)
        refine wpAnyD_take (i := 7) (v := ?_) rfl (by kernel_rfl) (by kernel_rfl) (by kernel_rfl) (by kernel_rfl) (fun _ _ _ h => h) (Or.inl ⟨by rfl, ?_⟩) hS0 ?_
        rotate_left
        · intro w _; first | (go_simp; done) | (go_simp; with_reducible rfl)
        refine wpAnyD_take (i := 8) (v := ?_) rfl (by kernel_rfl) (by kernel_rfl) (by kernel_rfl) (by kernel_rfl) (fun _ _ _ h => h) (Or.inl ⟨by rfl, ?_⟩) hS0 ?_
        rotate_left
        · intro w _; first | (go_simp; done) | (go_simp; with_reducible rfl)
        refine wpAnyD_take (i := 9) (v := ?_) rfl (by kernel_rfl) (by kernel_rfl) (by kernel_rfl) (by kernel_rfl) (fun _ _ _ h => h) (Or.inl ⟨by rfl, ?_⟩) hS0 ?_
        rotate_left
        · intro w _; first | (go_simp; done) | (go_simp; with_reducible rfl)
        refine wpAnyD_take (i := 10) (v := ?_) rfl (by kernel_rfl) (by kernel_rfl) (by kernel_rfl) (by kernel_rfl) (fun _ _ _ h => h) (Or.inl ⟨by rfl, ?_⟩) hS0 ?_
        rotate_left
        · intro w _; first | (go_simp; done) | (go_simp; with_reducible rfl)
        refine wpAnyD_take (i := 11) (v := ?_) rfl (by kernel_rfl) (by kernel_rfl) (by kernel_rfl) (by kernel_rfl) (fun _ _ _ h => h) (Or.inl ⟨by rfl, ?_⟩) hS0 ?_
        rotate_left
        · intro w _; first | (go_simp; done) | (go_simp; with_reducible rfl)
        refine wpAnyD_take (i := 12) (v := ?_) rfl (by kernel_rfl) (by kernel_rfl) (by kernel_rfl) (by kernel_rfl) (fun _ _ _ h => h) (Or.inl ⟨by rfl, ?_⟩) hS0 ?_
        rotate_left
        · intro w hw; obtain ⟨⟨s1', s2', s3'⟩, s4', s5', s6'⟩ := hw; first | (go_simp; done) | (go_simp; with_reducible rfl)
        refine wpAnyD_take (i := 13) (v := ?_) rfl (by kernel_rfl) (by kernel_rfl) (by kernel_rfl) (by kernel_rfl) (fun _ _ _ h => h) (Or.inl ⟨by rfl, ?_⟩) hS0 ?_
        rotate_left
        · intro w _; first | (go_simp; done) | (go_simp; with_reducible rfl)
        refine wpAnyD_take (i := 14) (v := ?_) rfl (by kernel_rfl) (by kernel_rfl) (by kernel_rfl) (by kernel_rfl) (fun _ _ _ h => h) (Or.inl ⟨by rfl, ?_⟩) hS0 ?_
        rotate_left
        · intro w _; first | (go_simp; done) | (go_simp; with_reducible rfl)
        refine wpAnyD_take (i := 15) (v := ?_) rfl (by kernel_rfl) (by kernel_rfl) (by kernel_rfl) (by kernel_rfl) (fun _ _ _ h => h) (Or.inl ⟨by rfl, ?_⟩) hS0 ?_
        rotate_left
        · intro w _; first | (go_simp; done) | (go_simp; with_reducible rfl)
        refine wpAnyD_take (i := 16) (v := ?_) rfl (by kernel_rfl) (by kernel_rfl) (by kernel_rfl) (by kernel_rfl) (fun _ _ _ h => h) (Or.inl ⟨by rfl, ?_⟩) hS0 ?_
        rotate_left
        · intro w _; first | (go_simp; done) | (go_simp; with_reducible rfl)
        refine wpAnyD_take (i := 17) (v := ?_) rfl (by kernel_rfl) (by kernel_rfl) (by kernel_rfl) (by kernel_rfl) (fun _ _ _ h => h) (Or.inl ⟨by rfl, ?_⟩) hS0 ?_
        rotate_left
        · intro w _; first | (go_simp; done) | (go_simp; with_reducible rfl)
        refine wpAnyD_take (i := 18) (v := ?_) rfl (by kernel_rfl) (by kernel_rfl) (by kernel_rfl) (by kernel_rfl) (fun _ _ _ h => h) (Or.inl ⟨by rfl, ?_⟩) hS0 ?_
        rotate_left
        · intro w _; first | (go_simp; done) | (go_simp; with_reducible rfl)
        refine wpAnyD_take (i := 19) (v := ?_) rfl (by kernel_rfl) (by kernel_rfl) (by kernel_rfl) (by kernel_rfl) (fun _ _ _ h => h) (Or.inl ⟨by rfl, ?_⟩) hS0 ?_
        rotate_left
        · intro w hw; obtain ⟨⟨s1', s2', s3'⟩, s4', s5', s6'⟩ := hw; first | (go_simp; done) | (go_simp; with_reducible rfl)
        refine wpAnyD_take (i := 20) (v := ?_) rfl (by kernel_rfl) (by kernel_rfl) (by kernel_rfl) (by kernel_rfl) (fun _ _ _ h => h) (Or.inl ⟨by rfl, ?_⟩) hS0 ?_
        rotate_left
        · intro w _; first | (go_simp; done) | (go_simp; with_reducible rfl)
        refine wpAnyD_one (i := 21) (by kernel_rfl) rfl (fun KK hKK => ?_)
        go_simp
        refine hKK _ _ ⟨fun _ => hS0, ?_⟩; clear hKK KK
        refine wpAnyD_take (i := 22) (v := ?_) rfl (by kernel_rfl) (by kernel_rfl) (by kernel_rfl) (by kernel_rfl) (fun _ _ _ h => h) (Or.inl ⟨by rfl, ?_⟩) hS0 ?_
        rotate_left
        · intro w _; first | (go_simp; done) | (go_simp; with_reducible rfl)
        refine wpAnyD_done (by kernel_rfl) ?_ _
        go_simp
        go_wp2_with fail
        go_roundw
        case rel => exact ⟨i + 1, D, by omega, by go_num, rfl, hD, Hnx.out D (Nat.le_refl _) (by omega), hbd⟩
        case measure => simp [intOf]; omega
    · obtain rfl : i = n := by omega
      go_wp2_with fail
      go_ret
      refine ⟨⟨D, rfl, hD, fun m hm => ?_⟩, hbel⟩
      obtain ⟨j, hj⟩ := List.getElem?_of_mem hm
      exact hall.out j m (by rw [← Hn.out]; exact (List.getElem?_eq_some_iff.1 hj).1) hj

section
variable {H : Type} {enc : TypeId × Value → H} {P : Program} {w : World} {base : Nat} {spare : Nat → Bool} {held : Bool}
theorem okWide_arr {n : Nat} {e t : TypeId} {r : Reach} {b0 : Nat} {v : Value} (ht : P.underlying t = some (.array n e)) (h : Value.okWide P w r b0 t v) : ∃ cs, v = .agg cs := by
  simp only [Value.okWide, ht] at h
  obtain ⟨cs, h1, _⟩ := h
  exact ⟨cs, h1⟩
/-- Three numbers of any size. -/
theorem openAt {fuel : Nat} {cs : Array Value} {x : DataW H × List MemPlace} (h : DataW.trod enc Tryz.prog w base spare held fuel 45 cs.toList = some x) :
    ∃ (s0 : Bool) (po0 : Option Addr) (pn0 pc0 : Nat) (qo0 : Option Addr) (qn0 qc0 : Nat) (s1 : Bool) (po1 : Option Addr) (pn1 pc1 : Nat) (qo1 : Option Addr) (qn1 qc1 : Nat) (s2 : Bool) (po2 : Option Addr) (pn2 pc2 : Nat) (qo2 : Option Addr) (qn2 qc2 : Nat) (x y z : Rat), cs = #[.bool s0, .slice po0 pn0 pc0, .slice qo0 qn0 qc0, .bool s1, .slice po1 pn1 pc1, .slice qo1 qn1 qc1, .bool s2, .slice po2 pn2 pc2, .slice qo2 qn2 qc2] ∧ RatW w (.agg #[.bool s0, .slice po0 pn0 pc0, .slice qo0 qn0 qc0]) x ∧ RatW w (.agg #[.bool s1, .slice po1 pn1 pc1, .slice qo1 qn1 qc1]) y ∧ RatW w (.agg #[.bool s2, .slice po2 pn2 pc2, .slice qo2 qn2 qc2]) z := by
  have c3 : Tryz.prog.cellsOf 25 = 3 := by kernel_rfl
  have c9 : Tryz.prog.cellsOf 45 = 9 := by kernel_rfl
  obtain ⟨xs, m, _, _, hl, hxl, hat⟩ := DataW.trod_array Tryz.underlying45 h
  rw [c9] at hl
  rw [c3] at hat
  obtain ⟨u, hu⟩ : ∃ u, cs.toList = u := ⟨_, rfl⟩
  rw [hu] at hat hl
  match u, hl, hu with
  | [a0, a1, a2, b0, b1, b2, d0, d1, d2], _, hu =>
    obtain ⟨y0, hy0⟩ : ∃ y, xs[0]? = some y := ⟨_, List.getElem?_eq_getElem (by omega)⟩
    obtain ⟨y1, hy1⟩ : ∃ y, xs[1]? = some y := ⟨_, List.getElem?_eq_getElem (by omega)⟩
    obtain ⟨y2, hy2⟩ : ∃ y, xs[2]? = some y := ⟨_, List.getElem?_eq_getElem (by omega)⟩
    have g0 := hat 0 (by decide)
    have g1 := hat 1 (by decide)
    have g2 := hat 2 (by decide)
    rw [hy0] at g0
    rw [hy1] at g1
    rw [hy2] at g2
    have g0' : DataW.trod enc Tryz.prog w base spare held m 25 (#[a0, a1, a2] : Array Value).toList = some y0 := by simpa using g0
    have g1' : DataW.trod enc Tryz.prog w base spare held m 25 (#[b0, b1, b2] : Array Value).toList = some y1 := by simpa using g1
    have g2' : DataW.trod enc Tryz.prog w base spare held m 25 (#[d0, d1, d2] : Array Value).toList = some y2 := by simpa using g2
    obtain ⟨n0, N0, D0, o0, m0, k0, p0, l0, j0, e0, s0, t0, l1, l2, z0, z1⟩ := openRat g0'
    obtain ⟨n1, N1, D1, o1, m1, k1, p1, l3, j1, e1, s1, t1, l4, l5, z2, z3⟩ := openRat g1'
    obtain ⟨n2, N2, D2, o2, m2, k2, p2, l6, j2, e2, s2, t2, l7, l8, z4, z5⟩ := openRat g2'
    simp at e0 e1 e2
    obtain ⟨rfl, rfl, rfl⟩ := e0
    obtain ⟨rfl, rfl, rfl⟩ := e1
    obtain ⟨rfl, rfl, rfl⟩ := e2
    refine ⟨_, _, _, _, _, _, _, _, _, _, _, _, _, _, _, _, _, _, _, _, _, _, _, _, by cases cs; simpa using hu, ⟨n0, N0, D0, o0, p0, m0, k0, l0, j0, rfl, s0, t0, l1, l2, z0, z1, rfl⟩, ⟨n1, N1, D1, o1, p1, m1, k1, l3, j1, rfl, s1, t1, l4, l5, z2, z3, rfl⟩, ⟨n2, N2, D2, o2, p2, m2, k2, l6, j2, rfl, s2, t2, l7, l8, z4, z5, rfl⟩⟩
end
end Go.Proofs.YtgohfieleckmgaaGreatDoor
