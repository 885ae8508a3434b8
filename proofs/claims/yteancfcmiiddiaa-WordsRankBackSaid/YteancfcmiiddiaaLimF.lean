/-
  Contracts: limbs.small, length, left, right. No condition but sizes.
-/
import Derived.Test.YteancfcmiiddiaaLimE
namespace Go.Proofs.Yteancfcmiiddiaa
open Go.RowKit

theorem or_shl (r x : Nat) (hr : r < 4294967296) (hx : x < 4294967296) : bits .or .u64 ((r : Int) * 4294967296) (x : Int) = (r : Int) * 4294967296 + x :=
  bits_join .u64 64 (by decide) (fun n h1 h2 => by rw [wrapU]; have : (2 : Int) ^ 64 = 18446744073709551616 := by decide
                                                   omega) 32 _ _ (by omega) (by have : (2 : Int) ^ 32 = 4294967296 := by decide
                                                                                omega) (by have : (2 : Int) ^ 64 = 18446744073709551616 := by decide
                                                                                           omega) (by omega) (by have : (2 : Int) ^ 32 = 4294967296 := by decide
                                                                                                                 omega) (by have : (2 : Int) ^ 64 = 18446744073709551616 := by decide
                                                                                                                            omega)

theorem small_step {a j d r x : Nat} {hi : List Nat} (hd : 0 < d) (hh : val hi = a / 4294967296 ^ (j + 1) / d) (hr : r = a / 4294967296 ^ (j + 1) % d) (hx : x = a / 4294967296 ^ j % 4294967296) :
    val ((r * 4294967296 + x) / d :: hi) = a / 4294967296 ^ j / d ∧ (r * 4294967296 + x) % d = a / 4294967296 ^ j % d := by
  have h1 := div_step a j
  rw [← hx] at h1
  generalize a / 4294967296 ^ (j + 1) = H at *
  rw [h1, val, hh]
  have h2 := Nat.div_add_mod H d
  rw [← hr] at h2
  have h3 : x + 4294967296 * H = (r * 4294967296 + x) + d * (4294967296 * (H / d)) := by
    rw [Nat.mul_left_comm]; omega
  rw [h3, Nat.add_mul_div_left _ _ hd, Nat.add_mul_mod_self_left]
  exact ⟨rfl, rfl⟩

/-- A number and a limb. -/
def SmallOut (w : World) (q r : Nat) (e : Ending) (w' : World) : Prop :=
  ∃ ao k cap, e = .returned (.tuple #[.slice ao k cap, .int .u32 (r : Int)]) ∧ Sl w' ao k cap (u32s (dig q)) ∧ (ao = none → cap = 0) ∧ Below w.heap.size w w'

theorem SmallOut.of {w w' : World} {q r : Nat} {ao : Option Addr} {k cap : Nat} (h : NumOut w q (.returned (.slice ao k cap)) w') : SmallOut w q r (.returned (.tuple #[.slice ao k cap, .int .u32 (r : Int)])) w' := by
  obtain ⟨ao', k', cap', he, h1, h2, h3, _⟩ := h
  injection he with he
  injection he with e1 e2 e3
  subst e1 e2 e3
  exact ⟨_, _, _, rfl, h1, h2, h3⟩

set_option maxHeartbeats 1000000 in
theorem small_any (a : List Nat) (ha : Lim a) (d : Nat) (hd : 0 < d) (hd' : d < 4294967296) (ao : Option Addr) (n cap : Nat) (w : World) (hA : Sl w ao n cap (u32s a)) (hn : n ≤ 1099511627776) :
    Calls Try.prog 161 #[.slice ao n cap, .int .u32 (d : Int)] w (SmallOut w (val a / d) (val a % d)) := by
  have hla := hid hA.lenU
  have ha' := hid (limb_at ha)
  go_enter Try.func161, Try.ntmps161
  go_wp2_with (at_make; go_loud (refine wp_make rfl (.tmp 10) (.tmp 10) 120 rfl 64 _ 4 Try.underlying120 Try.infoU32 rfl _ _ _ _ n rfl rfl rfl rfl (by omega) (by omega) ?_))
  intro w1 hown _ hb1
  go_wp2_with fail
  go_loopw [7, 8] (fun s i wr => ∃ (k r : Nat) (o : List Nat), k ≤ n ∧ i = .int .i64 ((k : Int) - 1) ∧ s = .int .u64 r ∧ r < d ∧ Lim o ∧ Hid (val o = val a / 4294967296 ^ k / d) ∧ Hid (r = val a / 4294967296 ^ k % d) ∧
      wr.ownsRow w.heap.size 64 1 (.slice (some ⟨w.heap.size, 0, none⟩) n n) n (u32s (List.replicate k 0 ++ o)) ∧ Hid (o.length + k = n) ∧ Below w.heap.size w wr) (fun _ i _ => (intOf i + 1).toNat)
  case atStart => 
    have h0 : val a / 4294967296 ^ n = 0 := Nat.div_eq_of_lt (by have := val_lt ha; rwa [hla.out] at this)
    exact ⟨n, 0, [], Nat.le_refl _, rfl, rfl, hd, lim_nil, hid (by rw [h0]; simp [val]), hid (by rw [h0]; simp), by simpa [u32s] using hown, hid (by simp), hb1⟩
  case round =>
    clear hown hb1
    obtain ⟨k, r, o, hk, rfl, rfl, hr, hlo, hval, hrem, hown, hlen, hbel⟩ := hrel
    cases k with
    | zero =>
      have hres : Hid (val o = val a / d) := hid (by have := hval.out; simpa using this)
      have hrr : Hid (r = val a % d) := hid (by have := hrem.out; simpa using this)
      have hown : wr.ownsRow w.heap.size 64 1 (.slice (some ⟨w.heap.size, 0, none⟩) n n) n (u32s o) := by simpa using hown
      obtain ⟨oo, ocap, hv, osl⟩ := ownsSl hown
      injection hv with e1 e2 e3
      subst e1 e3
      have hr32 : r < 4294967296 := by omega
      go_wp2_with fail
      refine (clean_any o _ _ _ _ osl).mono ?_; rintro e w2 ⟨⟨k', rfl, hk', hs'⟩, rfl⟩
      have Hs' := hid hs'; clear hs'
      go_wp2_with fail
      go_ret2
      have := SmallOut.of (r := r) (NumOut.ofOwn hown hlo hres.out hk' Hs'.out hbel)
      rw [hrr.out] at this ⊢
      exact this
    | succ j =>
      have hj : ((j + 1 : Nat) : Int) - 1 = j := by omega
      rw [hj]
      clear hj
      have hA1 := hA.next hbel
      obtain ⟨x, hx', b, off, rfl, hcell⟩ := hA1.u32 (show j < n by omega)
      have hxl := ha x (List.mem_of_getElem? hx')
      have hxe : x = val a / 4294967296 ^ j % 4294967296 := by rw [← ha'.out j, List.getD, hx']; rfl
      obtain ⟨t, ht, hcell', hfr⟩ := row_at hown (show j < n by omega)
      have hst := hid (small_step hd hval.out hrem.out hxe)
      clear hx' hxe ht
      have hor := or_shl r x (by omega) hxl
      have hq : (r * 4294967296 + x) / d < 4294967296 := by
        rw [Nat.div_lt_iff_lt_mul hd]
        have : r * 4294967296 + 4294967296 ≤ d * 4294967296 := by
          have := Nat.mul_le_mul_right 4294967296 (show r + 1 ≤ d by omega)
          omega
        omega
      have fin : (wr.setCell ⟨w.heap.size, j, none⟩ (.int .u32 (((r : Int) * 4294967296 + (x : Int)) / (d : Int) % 4294967296))).ownsRow w.heap.size 64 1 (.slice (some ⟨w.heap.size, 0, none⟩) n n) n (u32s (List.replicate j 0 ++ ((r * 4294967296 + x) / d :: o))) ∧
          Below w.heap.size w (wr.setCell ⟨w.heap.size, j, none⟩ (.int .u32 (((r : Int) * 4294967296 + (x : Int)) / (d : Int) % 4294967296))) := by
        refine ⟨?_, hbel.setCell (Nat.le_refl _) _⟩
        have := row_store hown (k := j) ((r * 4294967296 + x) / d)
        rw [List.replicate_succ', List.append_assoc, List.singleton_append, set_mid (by simp), List.append_assoc, List.singleton_append] at this
        rwa [show (((r : Int) * 4294967296 + (x : Int)) / (d : Int) % 4294967296) = (((r * 4294967296 + x) / d : Nat) : Int) by
          have e : (((r * 4294967296 + x) / d : Nat) : Int) = ((r : Int) * 4294967296 + (x : Int)) / (d : Int) := by simp
          rw [← e]; exact (fun (q : Nat) (h : q < 4294967296) => (by omega : (q : Int) % 4294967296 = q)) _ hq]
      have Fin := hid fin; clear fin
      have hlen2 : Hid (((r * 4294967296 + x) / d :: o).length + j = n) := hid (by have := hlen.out; simp only [List.length_cons]; omega)
      have hrd : (r * 4294967296 + x) % d < d := Nat.mod_lt _ hd
      go_wp2_with fail
      go_roundw
      case rel => exact ⟨j, (r * 4294967296 + x) % d, (r * 4294967296 + x) / d :: o, by omega, rfl, by simp, hrd, lim_cons.2 ⟨hq, hlo⟩, hst.out.1, hst.out.2, Fin.out.1, hlen2, Fin.out.2⟩
      case measure => simp [intOf]

end Go.Proofs.Yteancfcmiiddiaa
