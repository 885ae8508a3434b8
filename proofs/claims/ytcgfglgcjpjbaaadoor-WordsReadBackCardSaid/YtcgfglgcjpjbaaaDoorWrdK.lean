/-
  The contracts of Parse of both packages of words. No condition but sizes, and that internal/bytealg.MaxLen holds a number.
-/
import Derived.Test.YtcgfglgcjpjbaaaDoorWrdJ
import Derived.Shelf.Strings.PiecesUse
namespace Go.Proofs.YtcgfglgcjpjbaaaDoor
open Go.RowKit
set_option linter.unusedSimpArgs false
set_option linter.unusedVariables false

/-- The library's variable holds a number. -/
def MaxL (w : World) : Prop := ∃ m, w.cell? ⟨0, 0, none⟩ = some (.int .i64 m)
theorem MaxL.next {w w' : World} (h : MaxL w) (hb : Below w.heap.size w w') : MaxL w' := by
  obtain ⟨m, hm⟩ := h
  exact ⟨m, ((bcell hb).1 _ _ (World.block_lt_of_cell? w _ hm)).trans hm⟩
theorem maxL_of {w : World} (h : w.ShapedOpen Tryd.prog) : MaxL w := Tryd.laysM146.s1_3 w h

/-- What Parse returns of a table and a text: an error if the table is not one. -/
def parErr (T : List ByteArray) (s : ByteArray) : Int := if valid T then prsErr T (fieldsW s) else 5
def parRes (T : List ByteArray) (s : ByteArray) : List Int := if valid T then prsRes T (fieldsW s) else []

theorem prs_bad {T Q : List ByteArray} {x : ByteArray} (hx : x ∈ Q) (h : findS T x = 0) : prsErr T Q = 3 ∧ prsRes T Q = [] := by
  have he : prsErr T Q = 3 := by
    unfold prsErr
    rw [if_neg]
    intro hall
    rw [List.all_eq_true] at hall
    have := hall x hx
    simp [h] at this
  exact ⟨he, by unfold prsRes; rw [he]; rfl⟩
theorem prs_long {T Q : List ByteArray} (h : ∀ x ∈ Q, findS T x ≠ 0) (hl : 256 < Q.length) : prsErr T Q = 2 ∧ prsRes T Q = [] := by
  have he : prsErr T Q = 2 := by
    unfold prsErr
    rw [if_pos (List.all_eq_true.2 fun x hx => by simpa using h x hx), if_pos hl]
  exact ⟨he, by unfold prsRes; rw [he]; rfl⟩
theorem prs_good {T Q : List ByteArray} (h : ∀ x ∈ Q, findS T x ≠ 0) (hl : ¬ 256 < Q.length) : prsErr T Q = 0 ∧ prsRes T Q = Q.map (fun x => (findS T x : Int)) := by
  have he : prsErr T Q = 0 := by
    unfold prsErr
    rw [if_pos (List.all_eq_true.2 fun x hx => by simpa using h x hx), if_neg hl]
  exact ⟨he, by unfold prsRes; rw [he]; rfl⟩

theorem parts_list (s : ByteArray) : ∃ P : List ByteArray, Lib.splitB ⟨#[32]⟩ 0 (Lib.countB s ⟨#[32]⟩) s = P ∧ P.length = Lib.countB s ⟨#[32]⟩ + 1 ∧ P.filter (fun x => decide (x.size ≠ 0)) = fieldsW s := by
  refine ⟨_, rfl, Lib.splitB_all _ (by decide) 0 _ s rfl, ?_⟩
  rw [← pieces_fields, Lib.splitB_data]
  show _ = neB (parts s.data.toList)
  unfold neB
  rw [show (⟨#[32]⟩ : ByteArray).data.toList = [32] from rfl, splitK_parts _ _ (Nat.le_refl _)]

set_option maxHeartbeats 2000000 in
theorem wParse_any (T : List ByteArray) (ao : Option Addr) (n cap : Nat) (s : ByteArray) (hs : s.size ≤ 16384) (w : World) (h : Sl w ao n cap (T.map .string)) (hM : MaxL w) :
    Calls Tryd.prog 9 #[.slice ao n cap, .string s] w (IntsOut w (parRes T s) (parErr T s)) := by
  have hb := h.bound
  have hs63 : s.size < 4294967281 := by omega
  cases hv : valid T with
  | false =>
    have h2 : parErr T s = 5 := by unfold parErr; rw [hv]; rfl
    have h1 : parRes T s = [] := by unfold parRes; rw [hv]; rfl
    rw [h1, h2]
    have Hv := hid hv
    clear h1 h2 hv
    go_enter Tryd.func9, Tryd.ntmps9
    go_wp2_with fail
    refine (ValidT_any T _ _ _ _ h).mono ?_; rw [Hv.out]; rintro e w1 ⟨rfl, hb1⟩
    go_wp2_with fail
    go_ret2
    exact ⟨none, 0, 0, rfl, Sl.nil _, fun _ => rfl, hb1⟩
  | true =>
    have h2 : parErr T s = prsErr T (fieldsW s) := by unfold parErr; rw [hv]; rfl
    have h1 : parRes T s = prsRes T (fieldsW s) := by unfold parRes; rw [hv]; rfl
    rw [h1, h2]
    obtain ⟨P, hP, hPl, hPf⟩ := parts_list s
    have hcl := Lib.countB_le ⟨#[32]⟩ (by decide) s.size s (Nat.le_refl _)
    generalize hQ : fieldsW s = Q at *
    obtain ⟨R, hR⟩ : ∃ R, prsRes T Q = R := ⟨_, rfl⟩
    obtain ⟨C, hC⟩ : ∃ C, prsErr T Q = C := ⟨_, rfl⟩
    rw [hR, hC]
    have Hv := hid hv
    have HR := hid hR
    have HC := hid hC
    have HPf := hid hPf
    clear h1 h2 hv hR hC hPf hQ
    go_enter Tryd.func9, Tryd.ntmps9
    go_wp2_with fail
    refine (ValidT_any T _ _ _ _ h).mono ?_; rw [Hv.out]; rintro e w1 ⟨rfl, hb1⟩
    obtain ⟨mm, hmm⟩ := hM.next hb1
    go_wp2_with fail
    refine (Tryd.strings_Split s ⟨#[32]⟩ mm w1 hs63 hmm (by decide)).mono ?_
    rw [hP]
    rintro e w2 ⟨rfl, rfl⟩
    have hPk : P.length ≤ 16385 := by omega
    have hlen : Lib.countB s ⟨#[32]⟩ + 1 = P.length := hPl.symm
    rw [hlen]
    have sP : Sl (w1.alloc (.cells (P.map Value.string).toArray 9)) (some ⟨w1.heap.size, 0, none⟩) P.length P.length (P.map .string) := by
      have := Sl.lit w1 (P.map Value.string) 9 (by simp [maxLen]; omega)
      simpa using this
    have hbel1 : Below w.heap.size w (w1.alloc (.cells (P.map Value.string).toArray 9)) := hb1.alloc hb1.size _
    clear hPl hlen hP hcl hmm hM
    generalize w1.alloc (.cells (P.map Value.string).toArray 9) = w2 at *
    have h1 := h.next hbel1
    generalize w1.heap.size = B1 at *
    go_wp2_with fail
    go_loopw [6, 19] (fun ov iv wr => ∃ (k : Nat) (L : List ByteArray), k ≤ P.length ∧ iv = .int .i64 k ∧ wr.ownsRow w2.heap.size 3 1 ov L.length (i64s (L.map fun x => (findS T x : Int))) ∧ L.length ≤ k ∧ Hid ((P.take k).filter (fun x => decide (x.size ≠ 0)) = L ∧ ∀ x ∈ L, findS T x ≠ 0) ∧ Below w.heap.size w wr ∧ Below w2.heap.size w2 wr) (fun _ i _ => P.length - (intOf i).toNat)
    case atStart => exact ⟨0, [], by omega, rfl, World.ownsRow_nil _ _ _ _, by simp, hid ⟨rfl, by simp⟩, hbel1, Below.refl _ _⟩
    case round =>
      obtain ⟨k, L, hk, rfl, hown, hLk, hL, hbel, hbel2⟩ := hrel
      obtain ⟨oo, oc, rfl, _, hoz⟩ := ownsZ hown
      by_cases hlt : k < P.length
      · obtain ⟨x, hx', b, off, e, hcell⟩ := (sP.next hbel2).get hlt
        injection e with e
        injection e with e1 e2
        subst e1 e2
        simp only [Nat.zero_add] at hcell
        by_cases hx0 : x.size = 0
        · have e0 : x.toList.isEmpty = true := by rw [Lib.toList_data, List.isEmpty_iff]; rw [Lib.size_eq] at hx0; exact List.eq_nil_of_length_eq_zero hx0
          have hst : Hid ((P.take (k + 1)).filter (fun x => decide (x.size ≠ 0)) = L ∧ ∀ x ∈ L, findS T x ≠ 0) := hid ⟨by rw [take_snoc hx', List.filter_append, hL.out.1, List.filter_cons_of_neg (by rw [hx0]; decide), List.filter_nil, List.append_nil], hL.out.2⟩
          clear hx'
          go_wp2_with fail
          go_roundw
          case rel => exact ⟨k + 1, L, by omega, by go_num, hown, by omega, hst, hbel, hbel2⟩
          case measure => simp [intOf]; omega
        · have e0 : x.toList.isEmpty = false := by
            rw [Lib.toList_data]
            cases hc : x.data.toList with
            | nil => rw [Lib.size_eq, hc] at hx0; simp at hx0
            | cons => rfl
          obtain ⟨z, hz⟩ : ∃ z, findS T x = z := ⟨_, rfl⟩
          have hmem : x ∈ Q := by
            rw [← HPf.out, List.mem_filter]
            exact ⟨List.mem_of_getElem? hx', by simpa using hx0⟩
          by_cases hz0 : z = 0
          · subst hz0
            obtain ⟨b1, b2⟩ := prs_bad hmem hz
            obtain rfl : C = 3 := by rw [← HC.out]; exact b1
            obtain rfl : R = [] := by rw [← HR.out]; exact b2
            have Hz := hid hz
            clear hx' hz b1 b2 hmem
            go_wp2_with fail
            refine (Find_any T x _ _ _ _ (h1.next hbel2)).mono ?_; rw [Hz.out]; rintro e w3 ⟨rfl, hb3⟩
            go_wp2_with fail
            go_ret2
            exact ⟨none, 0, 0, rfl, Sl.nil _, fun _ => rfl, below_chain hbel hb3⟩
          · have hst : Hid ((P.take (k + 1)).filter (fun x => decide (x.size ≠ 0)) = L ++ [x] ∧ ∀ y ∈ L ++ [x], findS T y ≠ 0) := hid ⟨by rw [take_snoc hx', List.filter_append, hL.out.1, List.filter_cons_of_pos (p := fun x : ByteArray => decide (x.size ≠ 0)) (decide_eq_true hx0), List.filter_nil], fun y hy => by
                rcases List.mem_append.1 hy with hy | hy
                · exact hL.out.2 y hy
                · rw [List.mem_singleton.1 hy, hz]; exact hz0⟩
            have hz1 : ((z : Int) == 0) = false := by rw [beq_eq_false_iff_ne]; omega
            have hrow : Hid (i64s (L.map fun x => (findS T x : Int)) ++ i64s [(z : Int)] = i64s ((L ++ [x]).map fun x => (findS T x : Int))) := hid (by simp [i64s, hz])
            have Hz := hid hz
            clear hx' hz hmem
            go_wp2_with fail
            refine (Find_any T x _ _ _ _ (h1.next hbel2)).mono ?_; rw [Hz.out]; rintro e w3 ⟨rfl, hb3⟩
            have hbel3 := below_chain hbel hb3
            have hbel4 := below_chain hbel2 hb3
            have hown1 := ownsRow_below hown hb3 (Nat.le_refl _)
            have hlit : Sl (w3.alloc (.cells #[.int .i64 (z : Int)] 3)) (some ⟨w3.heap.size, 0, none⟩) 1 1 (i64s [(z : Int)]) := Sl.lit w3 [.int .i64 (z : Int)] 3 (by simp [maxLen])
            go_wp2_with (at_builtin; go_loud (refine wp_app rfl (.tmp 30) (.tmp 32) 23 rfl 3 _ 8 Tryd.underlying23 Tryd.infoI64 rfl w2.heap.size _ L.length _ rfl (hown1.alloc _) _ 1 1 _ rfl hlit (fun h => by cases h) (i64s_one _) (by omega) (by omega) (by have := hbel4.size; simp only [World.size_alloc]; omega) ?_))
            intro v' w4 hown2 hg2 hb4
            have hbel5 : Below w.heap.size w w4 := (hbel3.alloc hbel3.size _).trans (hb4.mono hbel1.size)
            have hbel6 : Below w2.heap.size w2 w4 := (hbel4.alloc hbel4.size _).trans hb4
            rw [hrow.out] at hown2
            have hown3 : w4.ownsRow w2.heap.size 3 1 v' (L ++ [x]).length (i64s ((L ++ [x]).map fun x => (findS T x : Int))) := by simpa using hown2
            clear hown2
            go_wp2_with fail
            go_roundw
            case rel => exact ⟨k + 1, L ++ [x], by omega, by go_num, hown3, by simp; omega, hst, hbel5, hbel6⟩
            case measure => simp [intOf]; omega
      · obtain rfl : k = P.length := by omega
        have hfin : L = Q ∧ ∀ x ∈ L, findS T x ≠ 0 := by
          have := hL.out
          rw [List.take_length, HPf.out] at this
          exact ⟨this.1.symm, this.2⟩
        obtain ⟨rfl, hne⟩ := hfin
        by_cases hbig : 256 < L.length
        · obtain ⟨b1, b2⟩ := prs_long hne hbig
          obtain rfl : C = 2 := by rw [← HC.out]; exact b1
          obtain rfl : R = [] := by rw [← HR.out]; exact b2
          clear b1 b2 hne
          go_wp2_with fail
          go_ret2
          exact ⟨none, 0, 0, rfl, Sl.nil _, fun _ => rfl, hbel⟩
        · obtain ⟨b1, b2⟩ := prs_good hne hbig
          obtain rfl : C = 0 := by rw [← HC.out]; exact b1
          have b3 : R = L.map (fun x => (findS T x : Int)) := by rw [← HR.out]; exact b2
          have b3 := hid b3
          clear b1 b2 hne
          go_wp2_with fail
          go_ret2
          exact IntsOut.own (ownsRow_mono hown hbel1.size) b3.out.symm hbel

set_option maxHeartbeats 2000000 in
theorem rwParse_any (T : List ByteArray) (hT : ∀ x ∈ T, x.size ≤ 140737488355328) (ao : Option Addr) (n cap : Nat) (s : ByteArray) (hs : s.size ≤ 16384) (w : World) (h : Sl w ao n cap (T.map .string)) :
    Calls Tryd.prog 10 #[.slice ao n cap, .string s] w (IntsOut w (parRes T s) (parErr T s)) := by
  have hb := h.bound
  have HT := hid hT
  clear hT
  cases hv : valid T with
  | false =>
    have h2 : parErr T s = 5 := by unfold parErr; rw [hv]; rfl
    have h1 : parRes T s = [] := by unfold parRes; rw [hv]; rfl
    rw [h1, h2]
    have Hv := hid hv
    clear h1 h2 hv
    go_enter Tryd.func10, Tryd.ntmps10
    go_wp2_with fail
    refine (rValidT_any T _ _ _ _ h HT.out).mono ?_; rw [Hv.out]; rintro e w1 ⟨rfl, hb1⟩
    go_wp2_with fail
    go_ret2
    exact ⟨none, 0, 0, rfl, Sl.nil _, fun _ => rfl, hb1⟩
  | true =>
    have h2 : parErr T s = prsErr T (fieldsW s) := by unfold parErr; rw [hv]; rfl
    have h1 : parRes T s = prsRes T (fieldsW s) := by unfold parRes; rw [hv]; rfl
    rw [h1, h2]
    obtain ⟨R, hR⟩ : ∃ R, prsRes T (fieldsW s) = R := ⟨_, rfl⟩
    obtain ⟨C, hC⟩ : ∃ C, prsErr T (fieldsW s) = C := ⟨_, rfl⟩
    rw [hR, hC]
    have hQl : (fieldsW s).length ≤ 100000 := by
      obtain ⟨P, _, hPl, hPf⟩ := parts_list s
      have hcl := Lib.countB_le ⟨#[32]⟩ (by decide) s.size s (Nat.le_refl _)
      have := List.length_filter_le (fun x : ByteArray => decide (x.size ≠ 0)) P
      rw [hPf] at this
      omega
    have Hv := hid hv
    have HR := hid hR
    have HC := hid hC
    clear h1 h2 hv hR hC
    go_enter Tryd.func10, Tryd.ntmps10
    go_wp2_with fail
    refine (rValidT_any T _ _ _ _ h HT.out).mono ?_; rw [Hv.out]; rintro e w1 ⟨rfl, hb1⟩
    go_wp2_with fail
    refine (rFields_any s (by omega) _).mono ?_; rintro e w2 ⟨v, rfl, hownQ, hb2⟩
    have hbel1 := below_chain hb1 hb2
    have h1 := (h.next hb1).next hb2
    obtain ⟨qo, qc, rfl, sQ, _⟩ := ownsZ hownQ
    generalize fieldsW s = Q at *
    clear hownQ
    go_wp2_with fail
    go_loopw [7, 8] (fun ov iv wr => ∃ (k : Nat), k ≤ Q.length ∧ iv = .int .i64 k ∧ wr.ownsRow w2.heap.size 3 1 ov k (i64s ((Q.take k).map fun x => (findS T x : Int))) ∧ Hid (∀ x ∈ Q.take k, findS T x ≠ 0) ∧ Below w.heap.size w wr ∧ Below w2.heap.size w2 wr) (fun _ i _ => Q.length - (intOf i).toNat)
    case atStart => exact ⟨0, by omega, rfl, World.ownsRow_nil _ _ _ _, hid (by simp), hbel1, Below.refl _ _⟩
    case round =>
      obtain ⟨k, hk, rfl, hown, hL, hbel, hbel2⟩ := hrel
      obtain ⟨oo, oc, rfl, _, hoz⟩ := ownsZ hown
      by_cases hlt : k < Q.length
      · obtain ⟨x, hx', b, off, rfl, hcell⟩ := (sQ.next hbel2).get hlt
        obtain ⟨z, hz⟩ : ∃ z, findS T x = z := ⟨_, rfl⟩
        by_cases hz0 : z = 0
        · subst hz0
          obtain ⟨b1, b2⟩ := prs_bad (List.mem_of_getElem? hx') hz
          obtain rfl : C = 3 := by rw [← HC.out]; exact b1
          obtain rfl : R = [] := by rw [← HR.out]; exact b2
          have Hz := hid hz
          clear hx' hz b1 b2
          go_wp2_with fail
          refine (rFind_any T x _ _ _ _ (h1.next hbel2) HT.out).mono ?_; rw [Hz.out]; rintro e w3 ⟨rfl, hb3⟩
          go_wp2_with fail
          go_ret2
          exact ⟨none, 0, 0, rfl, Sl.nil _, fun _ => rfl, below_chain hbel hb3⟩
        · have hst : Hid (∀ y ∈ Q.take (k + 1), findS T y ≠ 0) := hid fun y hy => by
            rw [take_snoc hx'] at hy
            rcases List.mem_append.1 hy with hy | hy
            · exact hL.out y hy
            · rw [List.mem_singleton.1 hy, hz]; exact hz0
          have hz1 : ((z : Int) == 0) = false := by rw [beq_eq_false_iff_ne]; omega
          have hrow : Hid (i64s ((Q.take k).map fun x => (findS T x : Int)) ++ i64s [(z : Int)] = i64s ((Q.take (k + 1)).map fun x => (findS T x : Int))) := hid (by rw [take_snoc hx']; simp [i64s, hz])
          have Hz := hid hz
          clear hx' hz
          go_wp2_with fail
          refine (rFind_any T x _ _ _ _ (h1.next hbel2) HT.out).mono ?_; rw [Hz.out]; rintro e w3 ⟨rfl, hb3⟩
          have hbel3 := below_chain hbel hb3
          have hbel4 := below_chain hbel2 hb3
          have hown1 := ownsRow_below hown hb3 (Nat.le_refl _)
          have hlit : Sl (w3.alloc (.cells #[.int .i64 (z : Int)] 3)) (some ⟨w3.heap.size, 0, none⟩) 1 1 (i64s [(z : Int)]) := Sl.lit w3 [.int .i64 (z : Int)] 3 (by simp [maxLen])
          go_wp2_with (at_builtin; go_loud (refine wp_app rfl (.tmp 32) (.tmp 34) 23 rfl 3 _ 8 Tryd.underlying23 Tryd.infoI64 rfl w2.heap.size _ k _ rfl (hown1.alloc _) _ 1 1 _ rfl hlit (fun h => by cases h) (i64s_one _) (by omega) (by omega) (by have := hbel4.size; simp only [World.size_alloc]; omega) ?_))
          intro v' w4 hown2 hg2 hb4
          have hbel5 : Below w.heap.size w w4 := (hbel3.alloc hbel3.size _).trans (hb4.mono hbel1.size)
          have hbel6 : Below w2.heap.size w2 w4 := (hbel4.alloc hbel4.size _).trans hb4
          rw [← List.map_take, hrow.out] at hown2
          go_wp2_with fail
          go_roundw
          case rel => exact ⟨k + 1, by omega, by go_num, hown2, hst, hbel5, hbel6⟩
          case measure => simp [intOf]; omega
      · obtain rfl : k = Q.length := by omega
        have hne := hL.out
        rw [List.take_length] at hne hown
        by_cases hbig : 256 < Q.length
        · obtain ⟨b1, b2⟩ := prs_long hne hbig
          obtain rfl : C = 2 := by rw [← HC.out]; exact b1
          obtain rfl : R = [] := by rw [← HR.out]; exact b2
          clear b1 b2 hne
          go_wp2_with fail
          go_ret2
          exact ⟨none, 0, 0, rfl, Sl.nil _, fun _ => rfl, hbel⟩
        · obtain ⟨b1, b2⟩ := prs_good hne hbig
          obtain rfl : C = 0 := by rw [← HC.out]; exact b1
          have b3 : R = Q.map (fun x => (findS T x : Int)) := by rw [← HR.out]; exact b2
          have b3 := hid b3
          clear b1 b2 hne
          go_wp2_with fail
          go_ret2
          exact IntsOut.own (ownsRow_mono hown hbel1.size) b3.out.symm hbel

end Go.Proofs.YtcgfglgcjpjbaaaDoor
