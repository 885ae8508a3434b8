/-
  The contracts of the reference's digits. No condition but sizes.
-/
import Derived.Test.YtjppjhjfogjhaaaGreatDoorTxtE
namespace Go.Proofs.YtjppjhjfogjhaaaGreatDoor
open Go.RowKit Go.Lib
set_option linter.unusedSimpArgs false
set_option linter.unusedVariables false

theorem dig_ten : dig 10 = [10] := by rw [dig_pos (by decide), show 10 / 4294967296 = 0 from rfl, dig_zero]

set_option maxHeartbeats 1000000 in
set_option maxRecDepth 100000 in
theorem rdigits_any (a : Nat) (ao : Option Addr) (n cap : Nat) (w : World) (hA : Sl w ao n cap (u32s (dig a))) (hn : n ≤ 16777216) :
    Calls Tryz.prog 66 #[.slice ao n cap] w (StrOut w (decDigits a)) := by
  have hla : (decDigits a).length ≤ 600000000 := by
    have := dec_len_le (n := a) (m := n) (by rw [lim, hA.lenU]; exact Nat.le_refl _)
    omega
  go_enter Tryz.func66, Tryz.ntmps66
  go_wp2_with fail
  go_loopg [0, 3] a (fun x av sv wr => ∃ (t : ByteArray) (xo : Option Addr) (xn xc : Nat), av = .slice xo xn xc ∧ sv = .string t ∧ Sl wr xo xn xc (u32s (dig x)) ∧ xn ≤ n ∧ Hid (decDigits a = decDigits x ++ t.data.toList) ∧ Below w.heap.size w wr)
  case atStart => exact ⟨⟨#[]⟩, ao, n, cap, rfl, rfl, hA, Nat.le_refl _, hid (by simp), Below.refl _ _⟩
  case round =>
    obtain ⟨t, xo, xn, xc, rfl, rfl, sx, hxn, hdec, hbel⟩ := hrel
    have ht : t.size ≤ 600000000 := by
      have := congrArg List.length hdec.out
      rw [List.length_append, ← Lib.size_eq] at this
      omega
    have hxl := hid sx.lenU
    have s10 := (one_limb (w := wr) 10 (by decide)).1
    rw [← dig_ten] at s10
    have hb1 : Below wr.heap.size wr (wr.alloc (.cells #[.int .u32 ((10 : Nat) : Int)] 72)) := below_alloc _
    have sx1 := sx.next hb1
    simp only [Int.cast_ofNat_Int] at s10 sx1 hb1
    have hr : gk % 10 < 10 := Nat.mod_lt _ (by decide)
    have hq : Hid (gk / 10 < 4294967296 ^ xn) := hid (Nat.lt_of_le_of_lt (Nat.div_le_self _ _) (by rw [← hxl.out]; exact dig_lt gk))
    have hstep : Hid ((gk / 10 = 0 → decDigits gk = [UInt8.ofNat (48 + gk % 10)]) ∧ (gk / 10 ≠ 0 → gk / 10 < gk ∧ decDigits gk = decDigits (gk / 10) ++ [UInt8.ofNat (48 + gk % 10)])) := hid ⟨fun h => by rw [decDigits_one (by omega), Nat.mod_eq_of_lt (by omega)], fun h => ⟨by omega, dec_ten (by omega)⟩⟩
    have hlimb : gk % 10 / 4294967296 ^ 0 % 4294967296 = gk % 10 := by rw [Nat.pow_zero, Nat.div_one]; exact Nat.mod_eq_of_lt (by omega)
    have hdiv := hid (divide_any gk 10 (by decide) _ _ _ _ _ _ _ sx1 s10 (by omega) (by decide))
    generalize gk % 10 = r at *
    generalize hqq : gk / 10 = Q at *
    have Hqq := hid hqq
    have Hlimb := hid hlimb
    clear hqq hlimb
    go_wp2_with fail
    refine hdiv.out.mono ?_; rintro e w1 ⟨qo, qn, qc, ro, rn, rc, rfl, sq, sr, hzq, hzr, hb2⟩
    clear hdiv
    go_wp2_with fail
    refine (limbD r 0 0 r rfl Hlimb.out _ _ _ _ sr).mono ?_; rintro e w2 ⟨rfl, rfl⟩
    have kc : (convert 100 9 (.slice (some ⟨w1.heap.size, 0, none⟩) 1 1)).run Tryz.prog (w1.alloc (.cells #[.int .u8 (48 + (r : Int))] 5)) = .ok (.string ⟨#[UInt8.ofNat (48 + r)]⟩) (w1.alloc (.cells #[.int .u8 (48 + (r : Int))] 5)) :=
      run_convert_bytes_back (P := Tryz.prog) (w1.alloc (.cells #[.int .u8 (48 + (r : Int))] 5)) 100 9 5 ⟨w1.heap.size, 0, none⟩ 1 [UInt8.ofNat (48 + r)] Tryz.underlying100 Tryz.underlying5 Tryz.underlying9 (fun j hj => by
        simp at hj
        subst hj
        have : (48 + r) % 256 = 48 + r := Nat.mod_eq_of_lt (by omega)
        simp [go_sem, this])
    obtain ⟨c, hc⟩ : ∃ c : ByteArray, (⟨#[UInt8.ofNat (48 + r)]⟩ : ByteArray) = c := ⟨_, rfl⟩
    rw [hc] at kc
    have hcz : c.size = 1 := by rw [← hc]; rfl
    have hcd : Hid (c.data.toList = [UInt8.ofNat (48 + r)]) := hid (by rw [← hc])
    clear hc
    have hbel2 : Below w.heap.size w (w1.alloc (.cells #[.int .u8 (48 + (r : Int))] 5)) := by
      have := below_chain (below_chain hbel hb1) hb2
      exact this.alloc this.size _
    have sq2 := sq.next (below_alloc (.cells #[.int .u8 (48 + (r : Int))] 5))
    have hql := hid sq.lenU
    cases hQ : Q with
    | zero =>
      rw [hQ] at hql hstep
      rw [dig_zero] at hql
      obtain rfl : qn = 0 := by have := hql.out; simpa using this.symm
      have hres : Hid (decDigits a = c.data.toList ++ t.data.toList) := hid (by rw [hdec.out, hstep.out.1 rfl, hcd.out])
      clear hQ hstep hql hcd
      go_wp2_with fail
      go_ret
      exact ⟨_, rfl, by rw [hres.out, Go.Joins.data_append], hbel2⟩
    | succ Q' =>
      have hQ0 : Q ≠ 0 := by omega
      have hst := hstep.out.2 hQ0
      have hqn : 1 ≤ qn := by
        rw [← hql.out]
        have : dig Q ≠ [] := fun h => hQ0 (dig_nil.1 h)
        cases h : dig Q with
        | nil => exact absurd h this
        | cons _ _ => simp
      have hm : Q < gk := hst.1
      have hqx : qn ≤ xn := sq.lenD hq.out
      have hres : Hid (decDigits a = decDigits Q ++ (c ++ t).data.toList) := hid (by rw [hdec.out, hst.2, Go.Joins.data_append, hcd.out]; simp)
      clear hQ hstep hql hQ0 hst hcd
      go_wp2_with fail
      go_roundg Q
      case measure => exact hm
      case rel => exact ⟨c ++ t, qo, qn, qc, rfl, rfl, sq2, by omega, hres, hbel2⟩

end Go.Proofs.YtjppjhjfogjhaaaGreatDoor
