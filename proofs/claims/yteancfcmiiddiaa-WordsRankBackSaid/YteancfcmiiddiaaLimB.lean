/-
  Contracts: limbs.plus, minus. No condition but sizes.
-/
import Derived.Test.YteancfcmiiddiaaLimA
import Derived.Test.YteancfcmiiddiaaApp
namespace Go.Proofs.Yteancfcmiiddiaa
open Go.RowKit

theorem Try.infoU32 : (Try.prog.info? 64).map (fun i => (i.zero, i.size, i.bytes)) = some (some (.int .u32 0), 1, 4) := by kernel_rfl

/-- What a function of limbs returns: a number. -/
def NumOut (w : World) (r : Nat) (e : Ending) (w' : World) : Prop :=
  ∃ ao k cap, e = .returned (.slice ao k cap) ∧ Sl w' ao k cap (u32s (dig r)) ∧ (ao = none → cap = 0) ∧ Below w.heap.size w w' ∧ ∀ a, ao = some a → w.heap.size ≤ a.block

/-- What a call owns, cleaned. -/
theorem NumOut.ofOwn {w w' : World} {e : TypeId} {ao : Option Addr} {n cap k r : Nat} {l : List Nat} (h : w'.ownsRow w.heap.size e 1 (.slice ao n cap) n (u32s l)) (hl : Lim l) (hr : val l = r)
    (hk : k ≤ n) (hs : strip l = l.take k) (hb : Below w.heap.size w w') : NumOut w r (.returned (.slice ao k cap)) w' := by
  obtain ⟨ao', cap', hv, hsl⟩ := ownsSl h
  injection hv with e1 e2 e3
  subst e1; subst e3
  refine ⟨ao, k, cap, rfl, ?_, ?_, hb, ?_⟩
  · rw [← hr, ← strip_eq hl]; exact takeU hsl hk hs
  · rintro rfl
    rcases h.2 with ⟨hv, _⟩ | ⟨g, c, cur, hv, _⟩
    · injection hv
    · injection hv with e1; cases e1
  · rintro a rfl
    rcases h.2 with ⟨hv, _⟩ | ⟨g, c, cur, hv, hg, _⟩
    · injection hv with e1; cases e1
    · injection hv with e1
      injection e1 with e1
      rw [e1]; exact hg

theorem mod_step (a i : Nat) : a % 4294967296 ^ (i + 1) = a % 4294967296 ^ i + 4294967296 ^ i * (a / 4294967296 ^ i % 4294967296) := by
  rw [Nat.pow_succ, Nat.mod_mul]

/-- One round of plus. -/
theorem plus_step {a b i c : Nat} {o : List Nat} (hlen : o.length = i) (h : val o + 4294967296 ^ i * c = a % 4294967296 ^ i + b % 4294967296 ^ i) (x y : Nat) (hx : x = a / 4294967296 ^ i % 4294967296) (hy : y = b / 4294967296 ^ i % 4294967296) :
    val (o ++ [(c + (x + y)) % 4294967296]) + 4294967296 ^ (i + 1) * ((c + (x + y)) / 4294967296) = a % 4294967296 ^ (i + 1) + b % 4294967296 ^ (i + 1) := by
  rw [val_append, hlen, mod_step a i, mod_step b i, ← hx, ← hy, Nat.pow_succ]
  simp only [val]
  generalize 4294967296 ^ i = p at *
  have h1 := Nat.mod_add_div (c + (x + y)) 4294967296
  generalize (c + (x + y)) % 4294967296 = r at *
  generalize (c + (x + y)) / 4294967296 = q at *
  have h2 : p * (r + 4294967296 * q) = p * (c + (x + y)) := by rw [h1]
  simp only [Nat.mul_add, Nat.mul_zero, Nat.add_zero, ← Nat.mul_assoc] at h2 ⊢
  omega

set_option maxHeartbeats 1000000 in
theorem plus_any (a b : List Nat) (ha : Lim a) (hb : Lim b) (ao bo : Option Addr) (n m cap cap' : Nat) (w : World) (hA : Sl w ao n cap (u32s a)) (hB : Sl w bo m cap' (u32s b)) (hn : n ≤ 1099511627776) (hm : m ≤ 1099511627776) :
    Calls Try.prog 133 #[.slice ao n cap, .slice bo m cap'] w (NumOut w (val a + val b)) := by
  have hla := hid hA.lenU
  have hlb := hid hB.lenU
  have ha' := hid (limb_at ha)
  have hb' := hid (limb_at hb)
  obtain ⟨M, hM1, hM2, hM⟩ : ∃ M, n ≤ M ∧ m ≤ M ∧ (M = n ∨ M = m) := ⟨max n m, Nat.le_max_left _ _, Nat.le_max_right _ _, by omega⟩
  go_enter Try.func133, Try.ntmps133
  go_wp2_with fail
  go_loopw [5, 6, 7] (fun v s i wr => ∃ (k c : Nat) (o : List Nat), k ≤ M + 1 ∧ i = .int .i64 k ∧ s = .int .u64 c ∧ c ≤ 1 ∧ (k = M + 1 → c = 0) ∧ Hid (o.length = k) ∧ Lim o ∧ Hid (val o + 4294967296 ^ k * c = val a % 4294967296 ^ k + val b % 4294967296 ^ k) ∧
      wr.ownsRow w.heap.size 64 1 v k (u32s o) ∧ Below w.heap.size w wr) (fun _ _ i _ => M + 1 - (intOf i).toNat)
  case atStart => exact ⟨0, 0, [], by omega, rfl, rfl, by omega, by omega, hid rfl, lim_nil, hid (by simp [val, Nat.mod_one]), World.ownsRow_nil _ _ _ _, Below.refl _ _⟩
  case round =>
    obtain ⟨k, c, o, hk, rfl, rfl, hc, hc0, hlen, hlo, hval, hown, hbel⟩ := hrel
    by_cases hgo : k < M ∨ c = 1
    · have hA1 := hA.next hbel
      have hB1 := hB.next hbel
      have hx : val a / 4294967296 ^ k % 4294967296 < 4294967296 := Nat.mod_lt _ (by decide)
      have hy : val b / 4294967296 ^ k % 4294967296 < 4294967296 := Nat.mod_lt _ (by decide)
      have hst := plus_step hlen.out hval.out _ _ rfl rfl
      have hga := ha'.out k
      have hgb := hb'.out k
      have htop : k = M → val a / 4294967296 ^ k % 4294967296 = 0 ∧ val b / 4294967296 ^ k % 4294967296 = 0 := fun e => by
        subst e
        rw [Nat.div_eq_of_lt (Nat.lt_of_lt_of_le (val_lt ha) (Nat.pow_le_pow_right (by decide) (by rw [hla.out]; exact hM1))), Nat.div_eq_of_lt (Nat.lt_of_lt_of_le (val_lt hb) (Nat.pow_le_pow_right (by decide) (by rw [hlb.out]; exact hM2)))]
        exact ⟨rfl, rfl⟩
      generalize val a / 4294967296 ^ k % 4294967296 = x at *
      generalize val b / 4294967296 ^ k % 4294967296 = y at *
      have Hst := hid hst; have Hga := hid hga; have Hgb := hid hgb; have Htop := hid htop
      clear hst hga hgb htop
      have hkM : k ≤ M := by
        rcases hgo with h1 | h1
        · omega
        · by_cases h2 : k = M + 1
          · have := hc0 h2; omega
          · omega
      have hc1 : k < M ∨ (M ≤ k ∧ 1 ≤ c) := by omega
      have hkc : Hid (k + 1 = M + 1 → (c + (x + y)) / 4294967296 = 0) := hid (fun e => by have := Htop.out (by omega); omega)
      clear hgo
      rcases Nat.lt_or_ge n m with hnm | hnm
      all_goals
        rcases hc1 with hkk | ⟨hkk, hc2⟩
        all_goals
          go_wp2_with fail
          refine (at_any a ha k x Hga.out _ _ _ _ hA1).mono ?_; rintro e w1 ⟨rfl, rfl⟩
          go_wp2_with fail
          refine (at_any b hb k y Hgb.out _ _ _ _ hB1).mono ?_; rintro e w1 ⟨rfl, rfl⟩
          have hlit : Sl (wr.alloc (.cells #[.int .u32 (((c : Int) + ((x : Int) + (y : Int))) % 4294967296)] 64)) (some ⟨wr.heap.size, 0, none⟩) 1 1 (u32s [(c + (x + y)) % 4294967296]) := by
            have := Sl.lit wr [.int .u32 (((c : Int) + ((x : Int) + (y : Int))) % 4294967296)] 64 (by simp [maxLen])
            simpa [u32s] using this
          go_wp2_with (at_builtin; go_loud (refine wp_app rfl (.tmp 30) (.tmp 33) 120 rfl 64 _ 4 Try.underlying120 Try.infoU32 rfl w.heap.size _ k _ rfl (hown.alloc _) _ 1 1 _ rfl hlit (fun h => by cases h) (u32s_one _) (by omega) (by omega) (by have := hbel.size; simp only [World.size_alloc]; omega) ?_))
          intro v' w2 hown2 hg2 hb2
          have hbel2 : Below w.heap.size w w2 := (hbel.alloc hbel.size _).trans hb2
          go_wp2_with fail
          go_roundw
          case rel => exact ⟨k + 1, (c + (x + y)) / 4294967296, o ++ [(c + (x + y)) % 4294967296], by omega, by go_num, by simp, by omega, hkc.out, hid (by rw [List.length_append, hlen.out]; rfl), lim_append.2 ⟨hlo, lim_cons.2 ⟨Nat.mod_lt _ (by decide), lim_nil⟩⟩, Hst, by simpa [u32s] using hown2, hbel2⟩
          case measure => simp [intOf]; omega
    · have hkM : M ≤ k := by omega
      obtain rfl : c = 0 := by omega
      have hres : Hid (val o = val a + val b) := hid (by
        have := hval.out
        rw [Nat.mod_eq_of_lt (Nat.lt_of_lt_of_le (val_lt ha) (Nat.pow_le_pow_right (by decide) (by rw [hla.out]; omega))), Nat.mod_eq_of_lt (Nat.lt_of_lt_of_le (val_lt hb) (Nat.pow_le_pow_right (by decide) (by rw [hlb.out]; omega)))] at this
        simpa using this)
      obtain ⟨oo, ocap, rfl, osl⟩ := ownsSl hown
      clear hgo
      rcases Nat.lt_or_ge n m with hnm | hnm
      all_goals
        go_wp2_with fail
        refine (clean_any o _ _ _ _ osl).mono ?_; rintro e w2 ⟨⟨k', rfl, hk', hs'⟩, rfl⟩
        have hs' := hid hs'
        go_wp2_with fail
        go_ret
        exact NumOut.ofOwn hown hlo hres.out hk' hs'.out hbel

end Go.Proofs.Yteancfcmiiddiaa
