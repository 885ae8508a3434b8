/-
  The contracts of limbs.over, gcd, rational.one, slices.Clone over limbs. Conditions: the divisor is not 0; sizes.
-/
import Derived.Test.YteancfcmiiddiaaLimK
import Derived.Deep.LoopGhost
namespace Go.Proofs.Yteancfcmiiddiaa
open Go.RowKit

theorem over_any (a b : Nat) (hb : b ≠ 0) (ao bo : Option Addr) (n m cap cap' : Nat) (w : World) (hA : Sl w ao n cap (u32s (dig a))) (hB : Sl w bo m cap' (u32s (dig b))) (hn : n ≤ 17179869184) (hm : m ≤ 17179869184) :
    Calls Try.prog 132 #[.slice ao n cap, .slice bo m cap'] w (DivOut w (a / b) (a % b)) := by
  have hl := hB.lenU
  have hpos : dig b ≠ [] := fun h => hb (dig_nil.1 h)
  cases m with
  | zero => exact absurd (List.eq_nil_of_length_eq_zero hl) hpos
  | succ m =>
    cases m with
    | zero =>
      have hb1 : b < 4294967296 := by have := dig_lt b; rw [hl] at this; simpa using this
      exact overOne_any a b (Nat.pos_of_ne_zero hb) hb1 ao bo n cap cap' w hA hB hn
    | succ m => exact overMany_any a b (m + 1) (by omega) hl ao bo n cap cap' w hA hB hn (by omega)

/-- A number comes back, in memory of whatever age. -/
def NumRes (w : World) (r : Nat) (e : Ending) (w' : World) : Prop :=
  ∃ ao k cap, e = .returned (.slice ao k cap) ∧ Sl w' ao k cap (u32s (dig r)) ∧ (ao = none → cap = 0) ∧ Below w.heap.size w w'

set_option maxHeartbeats 1000000 in
theorem gcd_any (a b : Nat) (ao bo : Option Addr) (n m cap cap' : Nat) (w : World) (hA : Sl w ao n cap (u32s (dig a))) (hB : Sl w bo m cap' (u32s (dig b))) (hza : ao = none → cap = 0) (hzb : bo = none → cap' = 0) (hn : n ≤ 17179869184) (hm : m ≤ 17179869184) :
    Calls Try.prog 156 #[.slice ao n cap, .slice bo m cap'] w (NumRes w (Nat.gcd a b)) := by
  go_enter Try.func156, Try.ntmps156
  go_wp2_with fail
  go_loopg [0, 1] b (fun k av bv wr => ∃ (x : Nat) (xo yo : Option Addr) (xn yn xc yc : Nat), av = .slice xo xn xc ∧ bv = .slice yo yn yc ∧ Sl wr xo xn xc (u32s (dig x)) ∧ Sl wr yo yn yc (u32s (dig k)) ∧ (xo = none → xc = 0) ∧ (yo = none → yc = 0) ∧ xn ≤ 17179869184 ∧ yn ≤ 17179869184 ∧ Hid (Nat.gcd x k = Nat.gcd a b) ∧ Below w.heap.size w wr)
  case atStart => exact ⟨a, ao, bo, n, m, cap, cap', rfl, rfl, hA, hB, hza, hzb, hn, hm, hid rfl, Below.refl _ _⟩
  case round =>
    obtain ⟨x, xo, yo, xn, yn, xc, yc, rfl, rfl, sx, sy, hzx, hzy, hxn, hyn, hg, hbel⟩ := hrel
    have hyl := sy.lenU
    by_cases hk : gk = 0
    · subst hk
      rw [dig_zero] at hyl
      obtain rfl : yn = 0 := by simpa using hyl.symm
      clear hyl
      have hgx : x = Nat.gcd a b := by have := hg.out; rwa [Nat.gcd_zero_right] at this
      go_wp2_with fail
      go_ret
      exact ⟨_, _, _, rfl, by rw [← hgx]; exact sx, hzx, hbel⟩
    · have hy0 : 1 ≤ yn := by
        rw [← hyl]
        have : dig gk ≠ [] := fun h => hk (dig_nil.1 h)
        cases h : dig gk with
        | nil => exact absurd h this
        | cons _ _ => simp
      have hyl' := hid hyl; clear hyl
      have hlt : x % gk < gk := Nat.mod_lt _ (Nat.pos_of_ne_zero hk)
      have hg2 : Hid (Nat.gcd gk (x % gk) = Nat.gcd a b) := hid (by rw [← hg.out, Nat.gcd_comm gk, ← Nat.gcd_rec, Nat.gcd_comm])
      go_wp2_with fail
      refine (over_any x gk hk _ _ _ _ _ _ _ sx sy hxn hyn).mono ?_; rintro e w1 ⟨qo, qn, qc, ro, rn, rc, rfl, sq, sr, hzq, hzr, hb1⟩
      have hb2 : Below w.heap.size w w1 := hbel.trans (hb1.mono hbel.size)
      have sy1 := sy.next hb1
      have hrn : rn ≤ 17179869184 := by
        have := sr.lenD (k := yn) (Nat.lt_of_lt_of_le hlt (by rw [← hyl'.out]; exact Nat.le_of_lt (dig_lt gk)))
        omega
      go_wp2_with fail
      go_roundg (x % gk)
      case measure => exact hlt
      case rel => exact ⟨gk, yo, ro, yn, rn, yc, rc, rfl, rfl, sy1, sr, hzy, hzr, hyn, hrn, hg2, hb2⟩

theorem one_any (w : World) : Calls Try.prog 134 #[] w fun e w' => e = .returned (.slice (some ⟨w.heap.size, 0, none⟩) 1 1) ∧ Sl w' (some ⟨w.heap.size, 0, none⟩) 1 1 (u32s (dig 1)) ∧ Below w.heap.size w w' := by
  have h1 : dig 1 = [1] := by rw [dig_pos (by decide), dig_zero]
  go_enter Try.func134, Try.ntmps134
  go_wp2_with fail
  go_ret
  refine ⟨rfl, ?_, below_alloc _⟩
  rw [h1]
  exact (one_limb (w := w) 1 (by decide)).1

theorem cloneU_any (l : List Nat) (ao : Option Addr) (n cap : Nat) (w : World) (h : Sl w ao n cap (u32s l)) (hn : n ≤ 17592186044416) :
    Calls Try.prog 155 #[.slice ao n cap] w fun e w' => ∃ v, e = .returned v ∧ w'.ownsRow w.heap.size 64 1 v n (u32s l) ∧ Below w.heap.size w w' := by
  have hnil := fun w => Lib.run_eql_slice_nil (P := Try.prog) w 120 64 ao n cap 0 0 Try.underlying120
  cases ao with
  | none =>
    obtain ⟨rfl, hl⟩ := h.none_zero
    rw [hl]
    go_enter Try.func155, Try.ntmps155
    go_wp2_with fail
    go_ret
    exact ⟨_, rfl, World.ownsRow_nil _ _ _ _, Below.refl _ _⟩
  | some ad =>
    go_enter Try.func155, Try.ntmps155
    go_wp2_with (at_builtin; go_loud (refine wp_app rfl (.tmp 5) (.tmp 6) 120 rfl 64 _ 4 Try.underlying120 Try.infoU32 rfl w.heap.size _ 0 [] rfl (World.ownsRow_lit w #[] 0 (Nat.le_refl _) (by decide) rfl) (some ad) n cap (u32s l) rfl (h.next (below_alloc _)) (fun h => by cases h) (u32s_one l) (by omega) (by omega) (by simp) ?_))
    intro v' w' hown _ hb
    go_wp2_with fail
    go_ret
    exact ⟨_, rfl, by simpa using hown, (below_alloc _).trans hb⟩

end Go.Proofs.Yteancfcmiiddiaa
