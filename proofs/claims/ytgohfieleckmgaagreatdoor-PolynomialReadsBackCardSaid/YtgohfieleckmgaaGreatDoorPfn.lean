/-
  The contract of polynomial.Format. No condition but sizes and the table of powers of ten.
-/
import Derived.Test.YtgohfieleckmgaaGreatDoorPfm
namespace Go.Proofs.YtgohfieleckmgaaGreatDoor
open Go.RowKit
set_option linter.unusedSimpArgs false
set_option linter.unusedVariables false

/-- polynomial.value hands back its argument or nothing: what lies there lay there before. -/
theorem value_old (P : Pl) (v : Value) (w : World) (h : PolV w v P) : ∃ ao cap, PolC w ao cap P ∧ ∀ W, Below w.heap.size w W → Calls Tryz.prog 53 #[v] W fun e w' => e = .returned (.slice ao (lst P).length cap) ∧ Below W.heap.size W w' := by
  obtain ⟨ao, n, cap, l, rfl, hl, hp⟩ := h
  cases hv : vlB l with
  | true =>
    obtain ⟨h1, h2⟩ := hl.valid hv hp
    refine ⟨ao, cap, h2, fun W hW => ?_⟩
    have hva := hid (pValid_any ao n cap l W (hl.nextV hW))
    rw [hv] at hva
    rw [h1]
    clear hl hv h1 h2
    go_enter Tryz.func53, Tryz.ntmps53
    go_wp2_with fail
    refine hva.out.mono ?_; rintro e w1 ⟨rfl, hb1⟩
    go_wp2_with fail
    go_ret
    exact ⟨rfl, hb1⟩
  | false =>
    obtain ⟨h1, h2⟩ := polC_no (w := w) hv hp
    refine ⟨none, 0, h2, fun W hW => ?_⟩
    have hva := hid (pValid_any ao n cap l W (hl.nextV hW))
    rw [hv] at hva
    rw [h1]
    clear hl hv h1 h2
    go_enter Tryz.func53, Tryz.ntmps53
    go_wp2_with fail
    refine hva.out.mono ?_; rintro e w1 ⟨rfl, hb1⟩
    go_wp2_with fail
    go_ret
    exact ⟨rfl, hb1⟩

theorem H6.same {j : Nat} {x y z : Int} {s : Bool} {xo : Option Addr} {xn xc : Nat} {yo : Option Addr} {yn yc : Nat} {w w' : World} (h : H6 j 0 x y z s xo xn xc yo yn yc w) (he : w'.heap[j]? = w.heap[j]?) : H6 j 0 x y z s xo xn xc yo yn yc w' :=
  ⟨⟨(cell_same he _).trans h.1.1, (cell_same he _).trans h.1.2.1, (cell_same he _).trans h.1.2.2⟩, (cell_same he _).trans h.2.1, (cell_same he _).trans h.2.2.1, (cell_same he _).trans h.2.2.2⟩
theorem rsg_neg_iff (q : Rat) : decide (rsg q < 0) = decide (q.num < 0) := by
  unfold rsg sg
  rcases Int.lt_trichotomy q.num 0 with h | h | h
  · rw [if_pos h, decide_eq_true h]; rfl
  · rw [h]; rfl
  · rw [if_neg (by omega), if_neg (by omega), decide_eq_false (by omega), decide_eq_false (by omega)]

set_option maxRecDepth 100000 in
set_option maxHeartbeats 8000000 in
theorem pFormat_any (P : Pl) (v : Value) (w : World) (h : PolV w v P) (k : Nat) (hP : FitP k P) (hk : k ≤ 16777216) (hp : Pow w) : Calls Tryz.prog 44 #[v] w (StrOut w (fmtP P)) := by
  obtain ⟨ao, cap, hC, hval⟩ := value_old P v w h
  obtain ⟨_, _, _, _, rfl, _⟩ := id h
  obtain ⟨n, hn⟩ : ∃ n, (lst P).length = n := ⟨_, rfl⟩
  have hnb : n ≤ 56 := by rw [← hn]; exact len_lst P
  have Hn := hid hn
  have hC0 : Pol RatC w ao n cap ((lst P).map toM) := by have := hC; unfold PolC at this; rw [hn] at this; exact this
  rw [hn] at hval
  have HC := hid hC0
  have Hval := hid hval
  have Hp := hid hp
  have hPk := hid hP
  have hsz : Hid (∀ i, i ≤ n → (txtL ((lst P).take i)).length ≤ 1000000000000) := hid (fun i hi => by
    refine Nat.le_trans (txtL_len _ 10000000000 fun m hm => fmtQ_len (fit_abs (hP.mem (List.mem_of_mem_take hm))) hk) ?_
    have : ((lst P).take i).length ≤ 56 := by rw [List.length_take]; omega
    exact Nat.le_trans (Nat.mul_le_mul_right _ this) (by decide))
  have hB := Bui.fresh w
  have hba : Below w.heap.size w (w.alloc (.cells #[.pointer none, .slice none 0 0] 93)) := below_alloc _
  clear h hC hval hn hC0 hp hP
  go_enter Tryz.func44, Tryz.ntmps44
  go_wp2_with fail
  refine (Hval.out _ hba).mono ?_; rintro e w1 ⟨rfl, hb1⟩
  have hB1 := hB.next hb1
  have hbel1 := below_chain hba hb1
  clear hB hba hb1
  go_wp2_with fail
  go_loopw [10] (fun iv wr => ∃ i : Nat, i ≤ n ∧ iv = .int .i64 i ∧ Bui w.heap.size w.heap.size (txtL ((lst P).take i)) wr ∧ Below w.heap.size w wr) (fun i _ => n - (intOf i).toNat)
  case atStart => exact ⟨0, by omega, rfl, hB1, hbel1⟩
  case round =>
    clear hB1 hbel1
    obtain ⟨i, hi, rfl, hB, hbel⟩ := hrel
    by_cases hlt : i < n
    · obtain ⟨b, o, m1, m2, m3, q, s, xo, xn, xc, yo, yn, yc, hgm, rfl, hX, hrm⟩ := HC.out.atM hlt
      obtain ⟨⟨x0, x1, x2⟩, x3, x4, x5⟩ := H6.next hX hbel
      have hG := H6.fresh wr m1 m2 m3 s xo xn xc yo yn yc 59
      have hb2 : Below wr.heap.size wr (wr.alloc (.cells #[.int .i64 m1, .int .i64 m2, .int .i64 m3, .bool s, .slice xo xn xc, .slice yo yn yc] 59)) := below_alloc _
      have HG := hid hG
      obtain ⟨⟨y0, y1, y2⟩, y3, y4, y5⟩ := hG
      simp only [Nat.zero_add] at y1 y2 y3 y4 y5
      have hmem := lst_at (List.mem_of_getElem? hgm)
      have hdeg : Hid (m1 + m2 + m3 ≤ 5) := hid hmem.1
      have hfm := hid (hPk.out.mem (List.mem_of_getElem? hgm))
      have hrV := ((hrm.next hbel).next hb2).toV hfm.out (by omega)
      have Hrm := hid (hrm.toV hfm.out (by omega))
      have hGne : wr.heap.size ≠ w.heap.size := Nat.ne_of_gt hB.lt
      have hoff := hid (fun W (hb : Below wr.heap.size wr W) => hB.off hb)
      have hB2 := hB.next hb2
      have hbel2 := below_chain hbel hb2
      have htx := hid (txtL_take hgm)
      obtain ⟨neg, hneg⟩ : ∃ c, decide (q.num < 0) = c := ⟨_, rfl⟩
      obtain ⟨g, hg⟩ : ∃ g, rsg q = g := ⟨_, rfl⟩
      have hgn : decide (g < 0) = neg := by rw [← hg, rsg_neg_iff, hneg]
      have Hg := hid hg
      have hone : Hid (∀ f, oneT f ((m1, m2, m3), q) = sigT f neg ++ monT (m1, m2, m3) q) := hid (fun f => by unfold oneT; rw [show decide (((m1, m2, m3), q).2.num < 0) = neg from hneg])
      have hsz1 := hid (hsz.out i (by omega))
      have hsz2 : Hid ((sigT (decide (i = 0)) neg ++ monT (m1, m2, m3) q).length ≤ 1000000000000) := hid (by
        have h1 := hsz.out (i + 1) (by omega)
        rw [htx.out, hone.out, List.length_append] at h1
        omega)
      have i0 : (0 : Int) ≤ (i : Int) := by omega
      have i1 : (i : Int) < (n : Int) := by omega
      clear hgm hmem hrm hneg hg hB hX
      go_wp2_with fail
      refine (Sign_any q _ _ hrV).mono ?_; rw [Hg.out]; rintro e w3 ⟨rfl, hb3⟩
      clear hrV y0 y1 y2 y3 y4 y5 x0 x1 x2 x3 x4 x5
      have hB3 := hB2.next hb3
      have hbel3 := below_chain hbel2 hb3
      have hG3 := H6.next HG.out hb3
      have hoff3 := hoff.out _ (below_chain hb2 hb3)
      have hj3 : wr.heap.size < w3.heap.size := by have := (below_chain hb2 hb3).size; have := World.block_lt_of_cell? _ _ hG3.1.1; exact this
      clear hB2 hb2 hb3
      obtain ⟨T, hT⟩ : ∃ T, txtL ((lst P).take i) = T := ⟨_, rfl⟩
      rw [hT] at hsz1 htx hB3
      by_cases hi0 : i = 0
      · have c1 : ((i : Int) == 0) = true := by rw [beq_iff_eq]; omega
        have c2 : decide ((0 : Int) < (i : Int)) = false := by rw [decide_eq_false_iff_not]; omega
        have c3 : decide (0 < i) = false := by rw [decide_eq_false_iff_not]; omega
        have c4 : (i == 0) = true := by rw [beq_iff_eq]; omega
        rw [decide_eq_true hi0] at htx hsz2
        clear hi0 hT
        cases neg with
        | true =>
          go_wp2_with fail
          refine (bwrite_any _ _ T ⟨#[45]⟩ _ hB3 (by have h := hsz1.out; have : (⟨#[45]⟩ : ByteArray).size ≤ 3 := (by decide); omega) hbel3.size).mono ?_; rintro e w4 ⟨rfl, hB4, hbx4, hk4⟩
          have hbel4 := hbel3.trans hbx4
          have hG4 := H6.same hG3 (hk4 _ hj3 hGne hoff3)
          have hr4 := Hrm.out.next hbel4
          have hp4 := Hp.out.next hbel4
          obtain ⟨⟨z0, z1, z2⟩, z3, z4, z5⟩ := hG4
          simp only [Nat.zero_add] at z1 z2 z3 z4 z5
          clear hB3 hG3 hoff3 hj3 hbel3 hbx4 hk4
          go_wp2_with fail
          refine (pMono_any m1 m2 m3 q s xo xn xc yo yn yc _ hr4 k hfm.out hk hdeg.out hp4).mono ?_; rintro e w5 ⟨sx, rfl, hsx, hb5⟩
          have hB5 := hB4.next hb5
          have hbel5 := below_chain hbel4 hb5
          have hsx1 : sx.size ≤ 1000000000000 := by have h := hsz2.out; rw [List.length_append] at h; rw [Lib.size_eq, hsx]; omega
          have hw6 := hid (bwrite_any _ _ _ sx _ hB5 (by have h := hsz1.out; rw [List.length_append]; have : ([45] : List UInt8).length ≤ 3 := (by decide); omega) hbel5.size)
          clear z0 z1 z2 z3 z4 z5 hr4 hp4 hB4 hB5
          go_wp2_with fail
          refine hw6.out.mono ?_; rintro e w6 ⟨rfl, hB6, hbx6, _⟩
          have hbel6 := hbel5.trans hbx6
          have hB7 : Bui w.heap.size w.heap.size (txtL ((lst P).take (i + 1))) w6 := by rw [htx.out, hone.out, ← hsx, ← List.append_assoc]; exact hB6
          clear hB6 hw6
          go_wp2_with fail
          go_roundw
          case rel => exact ⟨i + 1, by omega, by go_num, hB7, hbel6⟩
          case measure => simp [intOf]; omega
        | false =>
          have hB4 : Bui w.heap.size w.heap.size (T ++ []) w3 := by rw [List.append_nil]; exact hB3
          have hbel4 := hbel3
          have hG4 := hG3
          have hr4 := Hrm.out.next hbel4
          have hp4 := Hp.out.next hbel4
          obtain ⟨⟨z0, z1, z2⟩, z3, z4, z5⟩ := hG4
          simp only [Nat.zero_add] at z1 z2 z3 z4 z5
          clear hB3 hG3 hoff3 hj3 hbel3
          go_wp2_with fail
          refine (pMono_any m1 m2 m3 q s xo xn xc yo yn yc _ hr4 k hfm.out hk hdeg.out hp4).mono ?_; rintro e w5 ⟨sx, rfl, hsx, hb5⟩
          have hB5 := hB4.next hb5
          have hbel5 := below_chain hbel4 hb5
          have hsx1 : sx.size ≤ 1000000000000 := by have h := hsz2.out; rw [List.length_append] at h; rw [Lib.size_eq, hsx]; omega
          have hw6 := hid (bwrite_any _ _ _ sx _ hB5 (by have h := hsz1.out; rw [List.length_append]; have : ([] : List UInt8).length ≤ 3 := (by decide); omega) hbel5.size)
          clear z0 z1 z2 z3 z4 z5 hr4 hp4 hB4 hB5
          go_wp2_with fail
          refine hw6.out.mono ?_; rintro e w6 ⟨rfl, hB6, hbx6, _⟩
          have hbel6 := hbel5.trans hbx6
          have hB7 : Bui w.heap.size w.heap.size (txtL ((lst P).take (i + 1))) w6 := by rw [htx.out, hone.out, ← hsx, ← List.append_assoc]; exact hB6
          clear hB6 hw6
          go_wp2_with fail
          go_roundw
          case rel => exact ⟨i + 1, by omega, by go_num, hB7, hbel6⟩
          case measure => simp [intOf]; omega
      · have c1 : ((i : Int) == 0) = false := by rw [beq_eq_false_iff_ne]; omega
        have c2 : decide ((0 : Int) < (i : Int)) = true := by rw [decide_eq_true_iff]; omega
        have c3 : decide (0 < i) = true := by rw [decide_eq_true_iff]; omega
        have c4 : (i == 0) = false := by rw [beq_eq_false_iff_ne]; omega
        rw [decide_eq_false hi0] at htx hsz2
        clear hi0 hT
        cases neg with
        | true =>
          go_wp2_with fail
          refine (bwrite_any _ _ T ⟨#[32, 45, 32]⟩ _ hB3 (by have h := hsz1.out; have : (⟨#[32, 45, 32]⟩ : ByteArray).size ≤ 3 := (by decide); omega) hbel3.size).mono ?_; rintro e w4 ⟨rfl, hB4, hbx4, hk4⟩
          have hbel4 := hbel3.trans hbx4
          have hG4 := H6.same hG3 (hk4 _ hj3 hGne hoff3)
          have hr4 := Hrm.out.next hbel4
          have hp4 := Hp.out.next hbel4
          obtain ⟨⟨z0, z1, z2⟩, z3, z4, z5⟩ := hG4
          simp only [Nat.zero_add] at z1 z2 z3 z4 z5
          clear hB3 hG3 hoff3 hj3 hbel3 hbx4 hk4
          go_wp2_with fail
          refine (pMono_any m1 m2 m3 q s xo xn xc yo yn yc _ hr4 k hfm.out hk hdeg.out hp4).mono ?_; rintro e w5 ⟨sx, rfl, hsx, hb5⟩
          have hB5 := hB4.next hb5
          have hbel5 := below_chain hbel4 hb5
          have hsx1 : sx.size ≤ 1000000000000 := by have h := hsz2.out; rw [List.length_append] at h; rw [Lib.size_eq, hsx]; omega
          have hw6 := hid (bwrite_any _ _ _ sx _ hB5 (by have h := hsz1.out; rw [List.length_append]; have : ([32, 45, 32] : List UInt8).length ≤ 3 := (by decide); omega) hbel5.size)
          clear z0 z1 z2 z3 z4 z5 hr4 hp4 hB4 hB5
          go_wp2_with fail
          refine hw6.out.mono ?_; rintro e w6 ⟨rfl, hB6, hbx6, _⟩
          have hbel6 := hbel5.trans hbx6
          have hB7 : Bui w.heap.size w.heap.size (txtL ((lst P).take (i + 1))) w6 := by rw [htx.out, hone.out, ← hsx, ← List.append_assoc]; exact hB6
          clear hB6 hw6
          go_wp2_with fail
          go_roundw
          case rel => exact ⟨i + 1, by omega, by go_num, hB7, hbel6⟩
          case measure => simp [intOf]; omega
        | false =>
          go_wp2_with fail
          refine (bwrite_any _ _ T ⟨#[32, 43, 32]⟩ _ hB3 (by have h := hsz1.out; have : (⟨#[32, 43, 32]⟩ : ByteArray).size ≤ 3 := (by decide); omega) hbel3.size).mono ?_; rintro e w4 ⟨rfl, hB4, hbx4, hk4⟩
          have hbel4 := hbel3.trans hbx4
          have hG4 := H6.same hG3 (hk4 _ hj3 hGne hoff3)
          have hr4 := Hrm.out.next hbel4
          have hp4 := Hp.out.next hbel4
          obtain ⟨⟨z0, z1, z2⟩, z3, z4, z5⟩ := hG4
          simp only [Nat.zero_add] at z1 z2 z3 z4 z5
          clear hB3 hG3 hoff3 hj3 hbel3 hbx4 hk4
          go_wp2_with fail
          refine (pMono_any m1 m2 m3 q s xo xn xc yo yn yc _ hr4 k hfm.out hk hdeg.out hp4).mono ?_; rintro e w5 ⟨sx, rfl, hsx, hb5⟩
          have hB5 := hB4.next hb5
          have hbel5 := below_chain hbel4 hb5
          have hsx1 : sx.size ≤ 1000000000000 := by have h := hsz2.out; rw [List.length_append] at h; rw [Lib.size_eq, hsx]; omega
          have hw6 := hid (bwrite_any _ _ _ sx _ hB5 (by have h := hsz1.out; rw [List.length_append]; have : ([32, 43, 32] : List UInt8).length ≤ 3 := (by decide); omega) hbel5.size)
          clear z0 z1 z2 z3 z4 z5 hr4 hp4 hB4 hB5
          go_wp2_with fail
          refine hw6.out.mono ?_; rintro e w6 ⟨rfl, hB6, hbx6, _⟩
          have hbel6 := hbel5.trans hbx6
          have hB7 : Bui w.heap.size w.heap.size (txtL ((lst P).take (i + 1))) w6 := by rw [htx.out, hone.out, ← hsx, ← List.append_assoc]; exact hB6
          clear hB6 hw6
          go_wp2_with fail
          go_roundw
          case rel => exact ⟨i + 1, by omega, by go_num, hB7, hbel6⟩
          case measure => simp [intOf]; omega
    · obtain rfl : i = n := by omega
      rw [List.take_of_length_le (by rw [Hn.out]; exact Nat.le_refl _)] at hB
      have hlB := hid (blen_any _ _ _ _ hB)
      by_cases hn0 : i = 0
      · have hnil : lst P = [] := List.eq_nil_of_length_eq_zero (by rw [Hn.out]; exact hn0)
        have hf : Hid (fmtP P = [48]) := hid (by unfold fmtP; rw [if_pos hnil])
        rw [hnil] at hlB
        clear hnil hn0 hB
        go_wp2_with fail
        refine hlB.out.mono ?_; rintro e w2 ⟨rfl, rfl⟩
        rw [show (txtL []).length = 0 from rfl]
        go_wp2_with fail
        go_ret
        exact ⟨_, rfl, hf.out.symm, hbel⟩
      · have hne : lst P ≠ [] := fun e => hn0 (by rw [← Hn.out, e]; rfl)
        have hf : Hid (fmtP P = txtL (lst P)) := hid (by unfold fmtP; rw [if_neg hne])
        obtain ⟨z, hz⟩ : ∃ z, (txtL (lst P)).length = z := ⟨_, rfl⟩
        have hz0 : z ≠ 0 := fun e => txtL_ne hne (List.eq_nil_of_length_eq_zero (by rw [hz]; exact e))
        have c1 : ((z : Int) == 0) = false := by rw [beq_eq_false_iff_ne]; omega
        rw [hz] at hlB
        clear hne hn0 hz
        go_wp2_with fail
        refine hlB.out.mono ?_; rintro e w2 ⟨rfl, rfl⟩
        go_wp2_with fail
        refine (bstring_any _ _ _ _ hB hbel.size).mono ?_; rintro e w3 ⟨rfl, hb3⟩
        have hbel3 := hbel.trans hb3
        go_wp2_with fail
        go_ret
        exact ⟨_, rfl, hf.out.symm, hbel3⟩
end Go.Proofs.YtgohfieleckmgaaGreatDoor
