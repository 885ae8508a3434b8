/-
  The contracts of Next of both packages of words. No condition.
-/
import Derived.Test.YtcgfglgcjpjbaaaDoorWrdB
import Derived.Test.YtcgfglgcjpjbaaaDoorApp
import Derived.Deep.LoopGhost
namespace Go.Proofs.YtcgfglgcjpjbaaaDoor
open Go.RowKit
set_option linter.unusedSimpArgs false
set_option linter.unusedVariables false

theorem Tryd.infoI64 : (Tryd.prog.info? 3).map (fun i => (i.zero, i.size, i.bytes)) = some (some (.int .i64 0), 1, 8) := by kernel_rfl

/-- The word that follows, its last symbol first. -/
def succR (s : Int) : List Int → List Int
  | [] => [1]
  | x :: r => if x < s then (x + 1) :: r else 1 :: succR s r
def nextW (l : List Int) (s : Int) : List Int := (succR s l.reverse).reverse

theorem succ_lt {l : List Int} {s x : Int} {j : Nat} (hx : l[j]? = some x) (h : x < s) : (succR s (l.take (j + 1)).reverse).reverse = l.take j ++ [x + 1] := by
  rw [take_snoc hx]; simp [succR, h]
theorem succ_ge {l : List Int} {s x : Int} {j : Nat} (hx : l[j]? = some x) (h : ¬ x < s) : (succR s (l.take (j + 1)).reverse).reverse = (succR s (l.take j).reverse).reverse ++ [1] := by
  rw [take_snoc hx]; simp [succR, h]

theorem set_at {α : Type} {l R : List α} {j : Nat} {x z : α} (hx : l[j]? = some x) : (l.take (j + 1) ++ R).set j z = l.take j ++ z :: R := by
  obtain ⟨hj, _⟩ := List.getElem?_eq_some_iff.1 hx
  have hl : (l.take j).length = j := by simp; omega
  rw [take_snoc hx, List.append_assoc, List.set_append, if_neg (by omega), hl]
  simp

theorem succR_len (s : Int) (r : List Int) : (succR s r).length = r.length ∨ (succR s r).length = r.length + 1 := by
  induction r with
  | nil => right; rfl
  | cons x r ih =>
    unfold succR
    split
    · left; rfl
    · simp; omega
theorem nextW_len (l : List Int) (s : Int) : (nextW l s).length = l.length ∨ (nextW l s).length = l.length + 1 := by
  have := succR_len s l.reverse
  simpa [nextW] using this

/-- A list of numbers and an error code. -/
def IntsOut (w : World) (l : List Int) (c : Int) (e : Ending) (w' : World) : Prop :=
  ∃ ao n cap, e = .returned (.tuple #[.slice ao n cap, .int .i64 c]) ∧ Sl w' ao n cap (i64s l) ∧ (ao = none → cap = 0) ∧ Below w.heap.size w w'
/-- A list of numbers. -/
def IntsRes (w : World) (l : List Int) (e : Ending) (w' : World) : Prop :=
  ∃ ao n cap, e = .returned (.slice ao n cap) ∧ Sl w' ao n cap (i64s l) ∧ (ao = none → cap = 0) ∧ Below w.heap.size w w'

theorem ownsZ {w : World} {base : Nat} {e : TypeId} {v : Value} {n : Nat} {xs : List Value} (h : w.ownsRow base e 1 v n xs) : ∃ ao cap, v = .slice ao n cap ∧ Sl w ao n cap xs ∧ (ao = none → cap = 0) := by
  obtain ⟨ao, cap, rfl, hs⟩ := ownsSl h
  refine ⟨ao, cap, rfl, hs, ?_⟩
  rintro rfl
  rcases h.2 with ⟨hv, _⟩ | ⟨g, c, cur, hv, _⟩
  · injection hv
  · injection hv with e1; cases e1

theorem IntsOut.own {w w' : World} {v : Value} {n : Nat} {l l' : List Int} {c : Int} (h : w'.ownsRow w.heap.size 3 1 v n (i64s l)) (e : l = l') (hb : Below w.heap.size w w') : IntsOut w l' c (.returned (.tuple #[v, .int .i64 c])) w' := by
  subst e
  obtain ⟨ao, cap, rfl, hs, hz⟩ := ownsZ h
  exact ⟨_, _, _, rfl, hs, hz, hb⟩
theorem IntsRes.own {w w' : World} {v : Value} {n : Nat} {l l' : List Int} (h : w'.ownsRow w.heap.size 3 1 v n (i64s l)) (e : l = l') (hb : Below w.heap.size w w') : IntsRes w l' (.returned v) w' := by
  subst e
  obtain ⟨ao, cap, rfl, hs, hz⟩ := ownsZ h
  exact ⟨_, _, _, rfl, hs, hz, hb⟩

theorem cloneI_any (l : List Int) (ao : Option Addr) (n cap : Nat) (w : World) (h : Sl w ao n cap (i64s l)) (hn : n ≤ 17592186044416) :
    Calls Tryd.prog 33 #[.slice ao n cap] w fun e w' => ∃ v, e = .returned v ∧ w'.ownsRow w.heap.size 3 1 v n (i64s l) ∧ Below w.heap.size w w' := by
  have hnil := fun w => Lib.run_eql_slice_nil (P := Tryd.prog) w 23 3 ao n cap 0 0 Tryd.underlying23
  cases ao with
  | none =>
    obtain ⟨rfl, hl⟩ := h.none_zero
    rw [hl]
    go_enter Tryd.func33, Tryd.ntmps33
    go_wp2_with fail
    go_ret
    exact ⟨_, rfl, World.ownsRow_nil _ _ _ _, Below.refl _ _⟩
  | some ad =>
    go_enter Tryd.func33, Tryd.ntmps33
    go_wp2_with (at_builtin; go_loud (refine wp_app rfl (.tmp 5) (.tmp 6) 23 rfl 3 _ 8 Tryd.underlying23 Tryd.infoI64 rfl w.heap.size _ 0 [] rfl (World.ownsRow_lit w #[] 0 (Nat.le_refl _) (by decide) rfl) (some ad) n cap (i64s l) rfl (h.next (below_alloc _)) (fun h => by cases h) (i64s_one l) (by omega) (by omega) (by simp) ?_))
    intro v' w' hown _ hb
    go_wp2_with fail
    go_ret
    exact ⟨_, rfl, by simpa using hown, (below_alloc _).trans hb⟩

/-- The row of a word in the making. -/
theorem rowI {w : World} {base : Nat} {e : TypeId} {v : Value} {n j : Nat} {l : List Int} (h : w.ownsRow base e 1 v n (i64s l)) (hj : j < n) :
    ∃ g cap x, v = .slice (some ⟨g, 0, none⟩) n cap ∧ base ≤ g ∧ l[j]? = some x ∧ w.cell? ⟨g, j, none⟩ = some (.int .i64 x) ∧ w.frozen? ⟨g, j, none⟩ = false ∧
      ∀ z, (w.setCell ⟨g, j, none⟩ (.int .i64 z)).ownsRow base e 1 (.slice (some ⟨g, 0, none⟩) n cap) n (i64s (l.set j z)) := by
  have hl : l.length = n := by have := h.1; simpa [i64s] using this
  rcases h.2 with ⟨_, h0⟩ | ⟨g, cap, cur, rfl, hb, _⟩
  · omega
  · refine ⟨g, cap, l[j], rfl, hb, by simp, ?_, h.frozenAt j, fun z => ?_⟩
    · rw [h.cellAt j (by omega)]; simp [i64s, hl, hj]
    · have := (h.stored j (.int .i64 z)).1
      unfold i64s at this ⊢
      rwa [List.map_set]

def nextErr (l : List Int) (s : Int) : Int := if okW l s then (if 256 < (nextW l s).length then 2 else 0) else 9
def nextRes (l : List Int) (s : Int) : List Int := if okW l s then (if 256 < (nextW l s).length then [] else nextW l s) else []

theorem okW_len {l : List Int} {s : Int} (h : okW l s = true) : l.length ≤ 256 := (of_decide_eq_true h).2.2.1
theorem okW_s {l : List Int} {s : Int} (h : okW l s = true) : 1 ≤ s ∧ s ≤ 32 := ⟨(of_decide_eq_true h).1, (of_decide_eq_true h).2.1⟩
theorem okW_mem {l : List Int} {s x : Int} {j : Nat} (h : okW l s = true) (hx : l[j]? = some x) : 1 ≤ x ∧ x ≤ s := (of_decide_eq_true h).2.2.2 x (List.mem_of_getElem? hx)

set_option maxHeartbeats 2000000 in
theorem wNext_any (l : List Int) (s : Int) (ao : Option Addr) (n cap : Nat) (w : World) (h : Sl w ao n cap (i64s l)) :
    Calls Tryd.prog 15 #[.slice ao n cap, .int .i64 s] w (IntsOut w (nextRes l s) (nextErr l s)) := by
  have hb := h.bound
  have hn := hid h.lenI
  cases hok : okW l s with
  | false =>
    have h1 : nextRes l s = [] := by unfold nextRes; rw [hok]; rfl
    have h2 : nextErr l s = 9 := by unfold nextErr; rw [hok]; rfl
    rw [h1, h2]
    have Hok := hid hok
    clear h1 h2 hok
    go_enter Tryd.func15, Tryd.ntmps15
    go_wp2_with fail
    refine (wValid_any l s _ _ _ _ h).mono ?_; rintro e w1 ⟨rfl, rfl⟩
    rw [Hok.out]
    go_wp2_with fail
    go_ret2
    exact ⟨none, 0, 0, rfl, Sl.nil _, fun _ => rfl, Below.refl _ _⟩
  | true =>
    have h1 : nextRes l s = if 256 < (nextW l s).length then [] else nextW l s := by unfold nextRes; rw [hok]; rfl
    have h2 : nextErr l s = if 256 < (nextW l s).length then 2 else 0 := by unfold nextErr; rw [hok]; rfl
    have hnl := okW_len hok
    rw [hn.out] at hnl
    obtain ⟨hs1, hs2⟩ := okW_s hok
    have hmem : ∀ (j : Nat) (x : Int), l[j]? = some x → 1 ≤ x ∧ x ≤ s := fun j x hx => okW_mem hok hx
    generalize nextRes l s = R at *
    generalize nextErr l s = C at *
    have H1 := hid h1
    have H2 := hid h2
    have Hok := hid hok
    have Hmem := hid hmem
    clear h1 h2 hok hmem
    go_enter Tryd.func15, Tryd.ntmps15
    go_wp2_with fail
    refine (wValid_any l s _ _ _ _ h).mono ?_; rintro e w1 ⟨rfl, rfl⟩
    rw [Hok.out]
    go_wp2_with fail
    refine (cloneI_any l _ _ _ _ h (by omega)).mono ?_; rintro e w1 ⟨v, rfl, hown, hb1⟩
    obtain ⟨oo, oc, rfl, hsl, hz⟩ := ownsZ hown
    have hle := hsl.le
    go_wp2_with fail
    go_loopw [7] (fun i wr => ∃ k : Nat, k ≤ n ∧ i = .int .i64 ((k : Int) - 1) ∧ wr.ownsRow w.heap.size 3 1 (.slice oo n oc) n (i64s (l.take k ++ List.replicate (n - k) 1)) ∧ Below w.heap.size w wr ∧ Hid (nextW l s = (succR s (l.take k).reverse).reverse ++ List.replicate (n - k) 1)) (fun i _ => (intOf i + 1).toNat)
    case atStart =>
      have ht : l.take n = l := List.take_of_length_le (by rw [hn.out]; omega)
      exact ⟨n, by omega, rfl, by rw [ht]; simpa using hown, hb1, hid (by rw [ht]; simp [nextW])⟩
    case round =>
      clear hown hb1 hsl
      obtain ⟨k, hk, rfl, hown, hbel, hval⟩ := hrel
      cases k with
      | zero =>
        have hres : nextW l s = List.replicate n 1 ++ [1] := by
          have := hval.out
          simp [succR] at this
          rw [this, ← List.replicate_succ', List.replicate_succ]
        simp only [List.take_zero, List.nil_append, Nat.sub_zero] at hown
        by_cases hmax : n = 256
        · have hlen : 256 < (nextW l s).length := by rw [hres]; simp; omega
          obtain rfl : R = [] := by rw [H1.out, if_pos hlen]
          obtain rfl : C = 2 := by rw [H2.out, if_pos hlen]
          subst hmax
          clear hlen hres
          go_wp2_with fail
          go_ret2
          exact ⟨none, 0, 0, rfl, Sl.nil _, fun _ => rfl, hbel⟩
        · have hlen : ¬ 256 < (nextW l s).length := by rw [hres]; simp; omega
          have hR : R = nextW l s := by rw [H1.out, if_neg hlen]
          obtain rfl : C = 0 := by rw [H2.out, if_neg hlen]
          have hmax' : ((n : Int) == 256) = false := by rw [beq_eq_false_iff_ne]; omega
          rw [← hR] at hres
          clear hR
          have Hres := hid hres
          clear hlen hmax hres
          have hlit : Sl (wr.alloc (.cells #[.int .i64 1] 3)) (some ⟨wr.heap.size, 0, none⟩) 1 1 (i64s [1]) := Sl.lit wr [.int .i64 1] 3 (by simp [maxLen])
          go_wp2_with (at_builtin; go_loud (refine wp_app rfl (.tmp 40) (.tmp 41) 23 rfl 3 _ 8 Tryd.underlying23 Tryd.infoI64 rfl w.heap.size _ n _ rfl (hown.alloc _) _ 1 1 _ rfl hlit (fun h => by cases h) (i64s_one _) (by omega) (by omega) (by have := hbel.size; simp only [World.size_alloc]; omega) ?_))
          intro v' w2 hown2 hg2 hb2
          have hbel2 : Below w.heap.size w w2 := (hbel.alloc hbel.size _).trans hb2
          go_wp2_with fail
          go_ret2
          exact IntsOut.own (l := List.replicate n 1 ++ [1]) (by simpa [i64s] using hown2) Hres.out.symm hbel2
      | succ j =>
        have hj : ((j + 1 : Nat) : Int) - 1 = j := by omega
        rw [hj]
        clear hj
        obtain ⟨g, oc', x, hv, hg, hx', hcell, hfr, hset⟩ := rowI (j := j) hown (by omega)
        injection hv with e1 e2 e3
        subst e1 e3
        have hxl : l[j]? = some x := by
          rw [List.getElem?_append_left (by simp; have := hn.out; omega), List.getElem?_take, if_pos (by omega)] at hx'
          exact hx'
        have hset := fun z => hset z
        simp only [set_at hxl] at hset
        obtain ⟨hx1, hx2⟩ := Hmem.out j x hxl
        have Hset := hid hset
        have Hxl := hid hxl
        clear hset hx' hxl
        have hjn : j < n := by omega
        by_cases hlt : x < s
        · have hres : nextW l s = l.take j ++ (x + 1) :: List.replicate (n - (j + 1)) 1 := by
            rw [hval.out, succ_lt Hxl.out hlt]; simp
          have hlen : ¬ 256 < (nextW l s).length := by rw [hres]; simp; have := hn.out; omega
          have hR : R = nextW l s := by rw [H1.out, if_neg hlen]
          obtain rfl : C = 0 := by rw [H2.out, if_neg hlen]
          rw [← hR] at hres
          clear hR
          have Hres := hid hres
          clear hres hlen
          go_wp2_with fail
          go_ret2
          exact IntsOut.own (Hset.out (x + 1)) Hres.out.symm (hbel.setCell hg _)
        · have hstep : Hid (nextW l s = (succR s (l.take j).reverse).reverse ++ List.replicate (n - j) 1) := hid (by
            rw [hval.out, succ_ge Hxl.out hlt, show n - j = (n - (j + 1)) + 1 by omega, List.replicate_succ]; simp)
          have h1 := Hset.out 1
          rw [show (1 : Int) :: List.replicate (n - (j + 1)) 1 = List.replicate (n - j) 1 by rw [show n - j = (n - (j + 1)) + 1 by omega, List.replicate_succ]] at h1
          have hb2 := hbel.setCell (p := ⟨g, j, none⟩) hg (.int .i64 1)
          go_wp2_with fail
          go_roundw
          case rel => exact ⟨j, by omega, rfl, h1, hb2, hstep⟩
          case measure => simp [intOf]

end Go.Proofs.YtcgfglgcjpjbaaaDoor
